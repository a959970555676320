/- What the row needs, laid together out of MsgQ8 (own texts and texts printed for this seat; wip/tools/group.py). -/
import Derived.Test.YtdjompbhlkgmbaaGA7
section
/- Printed by a program of this session over its told contracts; mended by wip/tools/fixmsg.py. -/
namespace Go.Proofs.Ytdjompbhlkgmbaa.PMsg
open Go.RowKit Go.Proofs.YtdjompbhlkgmbaaW.PrintWords Go.Proofs.YtdjompbhlkgmbaaW.PrintLast Go.Proofs.YtdjompbhlkgmbaaW.PrintMore
attribute [local go_sem] max2_int min2_int max_two min_two max_three min_three max_four min_four   -- for this text's walks alone
set_option linter.unusedVariables false
set_option linter.unusedSimpArgs false

/-! ### tattlerref22_Body: function 26 -/
mutual
def tattlerref22_Body.j0 : Nat → List Int → Int → Int → Int → Int → Int → Int → Bool → List (S72) → List ByteArray → List (S54) → List (S56) → List Int → Option (ByteArray)
  | 0, _, _, _, _, _, _, _, _, _, _, _, _, _ => none
  | k + 1, x3, x122000, x122001, x122002, x122003, x122004, x122005, x122006, x122007, x122008, x122009, x122010, x122011 => (tattlerref22_put.f (IntKind.u64.wrap ((x122007.length : Int)))).bind fun t134 => (if x3.length + t134.size < 140737488355328 then (tattlerref22_Body.l0 k (x3 ++ bytesOf t134) (x122007.length : Int) 0 x122000 x122001 x122002 x122003 x122004 x122005 x122006 x122007 x122008 x122009 x122010 x122011) else (none))
def tattlerref22_Body.l0 : Nat → List Int → Int → Int → Int → Int → Int → Int → Int → Int → Bool → List (S72) → List ByteArray → List (S54) → List (S56) → List Int → Option (ByteArray)
  | 0, _, _, _, _, _, _, _, _, _, _, _, _, _, _, _ => none
  | k + 1, x3, x45, x46, x122000, x122001, x122002, x122003, x122004, x122005, x122006, x122007, x122008, x122009, x122010, x122011 => if x46 < x45 then (if 0 ≤ x46 then (if x46 < (x122007.length : Int) then ((tattlerref22_put.f (IntKind.u64.wrap ((rd_T72 x122007 x46).f0))).bind fun t140 => ((tattlerref22_put.f (IntKind.u64.wrap ((rd_T72 x122007 x46).f1.f0))).bind fun t141 => (if t140.size + t141.size ≤ 9223372036854775807 then ((tattlerref22_put.f (IntKind.u64.wrap ((rd_T72 x122007 x46).f1.f1))).bind fun t142 => (if (t140 ++ t141).size + t142.size ≤ 9223372036854775807 then (if x3.length + ((t140 ++ t141) ++ t142).size < 140737488355328 then (tattlerref22_Body.l0 k (x3 ++ bytesOf ((t140 ++ t141) ++ t142)) x45 (wrap64 (x46 + 1)) x122000 x122001 x122002 x122003 x122004 x122005 x122006 x122007 x122008 x122009 x122010 x122011) else (none)) else (none))) else (none)))) else (none)) else (none)) else ((tattlerref22_put.f (IntKind.u64.wrap ((x122008.length : Int)))).bind fun t146 => (if x3.length + t146.size < 140737488355328 then (tattlerref22_Body.l1 k (x3 ++ bytesOf t146) (x122008.length : Int) 0 x122000 x122001 x122002 x122003 x122004 x122005 x122006 x122007 x122008 x122009 x122010 x122011) else (none)))
def tattlerref22_Body.l1 : Nat → List Int → Int → Int → Int → Int → Int → Int → Int → Int → Bool → List (S72) → List ByteArray → List (S54) → List (S56) → List Int → Option (ByteArray)
  | 0, _, _, _, _, _, _, _, _, _, _, _, _, _, _, _ => none
  | k + 1, x3, x82, x83, x122000, x122001, x122002, x122003, x122004, x122005, x122006, x122007, x122008, x122009, x122010, x122011 => if x83 < x82 then (if 0 ≤ x83 then (if x83 < (x122008.length : Int) then ((tattlerref03_Text.f (rdOf ByteArray.empty x122008 x83)).bind fun t151 => (if x3.length + t151.size < 140737488355328 then (tattlerref22_Body.l1 k (x3 ++ bytesOf t151) x82 (wrap64 (x83 + 1)) x122000 x122001 x122002 x122003 x122004 x122005 x122006 x122007 x122008 x122009 x122010 x122011) else (none))) else (none)) else (none)) else ((tattlerref22_put.f (IntKind.u64.wrap ((x122009.length : Int)))).bind fun t155 => (if x3.length + t155.size < 140737488355328 then (tattlerref22_Body.l2 k (x3 ++ bytesOf t155) (x122009.length : Int) 0 x122000 x122001 x122002 x122003 x122004 x122005 x122006 x122007 x122008 x122009 x122010 x122011) else (none)))
def tattlerref22_Body.l2 : Nat → List Int → Int → Int → Int → Int → Int → Int → Int → Int → Bool → List (S72) → List ByteArray → List (S54) → List (S56) → List Int → Option (ByteArray)
  | 0, _, _, _, _, _, _, _, _, _, _, _, _, _, _, _ => none
  | k + 1, x3, x104, x105, x122000, x122001, x122002, x122003, x122004, x122005, x122006, x122007, x122008, x122009, x122010, x122011 => if x105 < x104 then (if 0 ≤ x105 then (if x105 < (x122009.length : Int) then ((tattlerref06_Put.f ((rd_T54 x122009 x105).f0) ((rd_T54 x122009 x105).f1.f0) ((rd_T54 x122009 x105).f1.f1) ((rd_T54 x122009 x105).f1.f2) ((rd_T54 x122009 x105).f2) ((rd_T54 x122009 x105).f3) ((rd_T54 x122009 x105).f4) ((rd_T54 x122009 x105).f5)).bind fun bt160 => (if x3.length + bt160.1.size < 140737488355328 then (tattlerref22_Body.l2 k (x3 ++ bytesOf bt160.1) x104 (wrap64 (x105 + 1)) x122000 x122001 x122002 x122003 x122004 x122005 x122006 x122007 x122008 x122009 x122010 x122011) else (none))) else (none)) else (none)) else ((tattlerref22_put.f (IntKind.u64.wrap ((x122010.length : Int)))).bind fun t165 => (if x3.length + t165.size < 140737488355328 then (tattlerref22_Body.l3 k (x3 ++ bytesOf t165) (x122010.length : Int) 0 x122000 x122001 x122002 x122003 x122004 x122005 x122006 x122007 x122008 x122009 x122010 x122011) else (none)))
def tattlerref22_Body.l3 : Nat → List Int → Int → Int → Int → Int → Int → Int → Int → Int → Bool → List (S72) → List ByteArray → List (S54) → List (S56) → List Int → Option (ByteArray)
  | 0, _, _, _, _, _, _, _, _, _, _, _, _, _, _, _ => none
  | k + 1, x3, x130, x131, x122000, x122001, x122002, x122003, x122004, x122005, x122006, x122007, x122008, x122009, x122010, x122011 => if x131 < x130 then (if 0 ≤ x131 then (if x131 < (x122010.length : Int) then ((tattlerref03_Text.f ((rd_T56 x122010 x131).f0)).bind fun t171 => ((tattlerref22_put.f ((rd_T56 x122010 x131).f1.f0)).bind fun t172 => (if t171.size + t172.size ≤ 9223372036854775807 then ((tattlerref22_put.f (IntKind.u64.wrap ((rd_T56 x122010 x131).f1.f1))).bind fun t173 => (if (t171 ++ t172).size + t173.size ≤ 9223372036854775807 then ((tattlerref22_put.f (IntKind.u64.wrap ((rd_T56 x122010 x131).f1.f2))).bind fun t174 => (if ((t171 ++ t172) ++ t173).size + t174.size ≤ 9223372036854775807 then ((tattlerref22_put.f (IntKind.u64.wrap ((rd_T56 x122010 x131).f2))).bind fun t175 => (if (((t171 ++ t172) ++ t173) ++ t174).size + t175.size ≤ 9223372036854775807 then (if x3.length + ((((t171 ++ t172) ++ t173) ++ t174) ++ t175).size < 140737488355328 then (tattlerref22_Body.l3 k (x3 ++ bytesOf ((((t171 ++ t172) ++ t173) ++ t174) ++ t175)) x130 (wrap64 (x131 + 1)) x122000 x122001 x122002 x122003 x122004 x122005 x122006 x122007 x122008 x122009 x122010 x122011) else (none)) else (none))) else (none))) else (none))) else (none)))) else (none)) else (none)) else ((tattlerref22_put.f (IntKind.u64.wrap ((x122011.length : Int)))).bind fun t179 => (if x3.length + t179.size < 140737488355328 then (tattlerref22_Body.l4 k (x3 ++ bytesOf t179) (x122011.length : Int) 0 x122000 x122001 x122002 x122003 x122004 x122005 x122006 x122007 x122008 x122009 x122010 x122011) else (none)))
def tattlerref22_Body.l4 : Nat → List Int → Int → Int → Int → Int → Int → Int → Int → Int → Bool → List (S72) → List ByteArray → List (S54) → List (S56) → List Int → Option (ByteArray)
  | 0, _, _, _, _, _, _, _, _, _, _, _, _, _, _, _ => none
  | k + 1, x3, x176, x177, x122000, x122001, x122002, x122003, x122004, x122005, x122006, x122007, x122008, x122009, x122010, x122011 => if x177 < x176 then (if 0 ≤ x177 then (if x177 < (x122011.length : Int) then ((tattlerref22_put.f (IntKind.u64.wrap (Int.tdiv (rd x122011 x177) 4294967296))).bind fun t184 => ((tattlerref22_put.f (Int.tmod (rd x122011 x177) 4294967296)).bind fun t186 => (if t184.size + t186.size ≤ 9223372036854775807 then (if x3.length + (t184 ++ t186).size < 140737488355328 then (tattlerref22_Body.l4 k (x3 ++ bytesOf (t184 ++ t186)) x176 (wrap64 (x177 + 1)) x122000 x122001 x122002 x122003 x122004 x122005 x122006 x122007 x122008 x122009 x122010 x122011) else (none)) else (none)))) else (none)) else (none)) else (some (strOfNums x3))
end
def tattlerref22_Body.f (k : Nat) (a0_0 : Int) (a0_1 : Int) (a0_2 : Int) (a0_3 : Int) (a0_4 : Int) (a0_5 : Int) (a0_6 : Bool) (l0_7 : List (S72)) (l0_8 : List ByteArray) (l0_9 : List (S54)) (l0_10 : List (S56)) (l0_11 : List Int) : Option (ByteArray) := (tattlerref22_put.f (IntKind.u64.wrap (a0_3))).bind fun t122 => ((tattlerref22_put.f (IntKind.u64.wrap (a0_4))).bind fun t123 => (if t122.size + t123.size ≤ 9223372036854775807 then ((tattlerref22_put.f (IntKind.u64.wrap (a0_5))).bind fun t124 => (if (t122 ++ t123).size + t124.size ≤ 9223372036854775807 then (if ((t122 ++ t123) ++ t124).size < 140737488355328 then ((some (bytesOf ((t122 ++ t123) ++ t124) : List Int)).bind fun y125 => (if a0_6 = true then (if y125.length < 140737488355328 then (tattlerref22_Body.j0 k (y125 ++ [1]) a0_0 a0_1 a0_2 a0_3 a0_4 a0_5 a0_6 l0_7 l0_8 l0_9 l0_10 l0_11) else (none)) else (if y125.length < 140737488355328 then (tattlerref22_Body.j0 k (y125 ++ [0]) a0_0 a0_1 a0_2 a0_3 a0_4 a0_5 a0_6 l0_7 l0_8 l0_9 l0_10 l0_11) else (none)))) else (none)) else (none))) else (none)))
def tattlerref22_Body.T1 : Bool × List (List Nat × List Nat) := (true, [([], []), ([0], [0]), ([1], [1]), ([2], [2]), ([], []), ([4], [4]), ([5], [5]), ([6, 3], [6]), ([3, 7], [3, 7]), ([], []), ([9], [9]), ([10], [10]), ([11, 7], [11]), ([8, 12], [8, 12]), ([13], [13]), ([14, 12, 0, 1, 2, 3, 4, 5, 6, 7, 8, 9, 10, 11, 12, 13, 14], [14])])
def tattlerref22_Body.B1 : List Nat := [0, 1, 3, 7, 0, 16, 48, 127, 255, 0, 512, 1536, 3839, 8191, 16383, 32767]
theorem tattlerref22_Body.tab1 : rtab .any (opsOf Try.f26 1) = tattlerref22_Body.T1 := by kernel_rfl
theorem tattlerref22_Body.bits1 : waitsOk tattlerref22_Body.T1.2 tattlerref22_Body.B1 = true := by kernel_rfl
def tattlerref22_Body.T10 : Bool × List (List Nat × List Nat) := (true, [([], []), ([], []), ([1], [1]), ([2], [2]), ([3], [3]), ([], []), ([5], [5]), ([6], [6]), ([7], [7]), ([8, 4], [8]), ([4, 9], [4, 9]), ([], []), ([11], [11]), ([12], [12]), ([13], [13]), ([14, 9], [14]), ([10, 15], [10, 15]), ([0, 16, 15], [0, 16]), ([17, 17, 0, 1, 2, 3, 4, 5, 6, 7, 8, 9, 10, 11, 12, 13, 14, 15, 16, 17], [0, 17])])
def tattlerref22_Body.B10 : List Nat := [0, 0, 2, 6, 14, 0, 32, 96, 224, 510, 1022, 0, 2048, 6144, 14336, 31742, 65534, 131071, 262143]
theorem tattlerref22_Body.tab10 : rtab .any (opsOf Try.f26 10) = tattlerref22_Body.T10 := by kernel_rfl
theorem tattlerref22_Body.bits10 : waitsOk tattlerref22_Body.T10.2 tattlerref22_Body.B10 = true := by kernel_rfl
def tattlerref22_Body.T30 : Bool × List (List Nat × List Nat) := (true, [([], []), ([], []), ([1], [1]), ([2], [2]), ([], []), ([4], [4]), ([5], [5]), ([6, 3], [6]), ([3, 7], [3, 7]), ([], []), ([9], [9]), ([10], [10]), ([11], [11]), ([12, 7], [12]), ([8, 13], [8, 13]), ([], []), ([15], [15]), ([16], [16]), ([17], [17]), ([18, 13], [18]), ([14, 19], [14, 19]), ([], []), ([21], [21]), ([22], [22]), ([23, 19], [23]), ([20, 24], [20, 24]), ([0, 25, 24], [0, 25]), ([26, 26, 0, 1, 2, 3, 4, 5, 6, 7, 8, 9, 10, 11, 12, 13, 14, 15, 16, 17, 18, 19, 20, 21, 22, 23, 24, 25, 26], [0, 26])])
def tattlerref22_Body.B30 : List Nat := [0, 0, 2, 6, 0, 16, 48, 126, 254, 0, 512, 1536, 3584, 7934, 16382, 0, 32768, 98304, 229376, 507646, 1048574, 0, 2097152, 6291456, 15711998, 33554430, 67108863, 134217727]
theorem tattlerref22_Body.tab30 : rtab .any (opsOf Try.f26 30) = tattlerref22_Body.T30 := by kernel_rfl
theorem tattlerref22_Body.bits30 : waitsOk tattlerref22_Body.T30.2 tattlerref22_Body.B30 = true := by kernel_rfl
def tattlerref22_Body.T36 : Bool × List (List Nat × List Nat) := (true, [([], []), ([], []), ([1], [1]), ([], []), ([2, 3], [2, 3]), ([4], [4]), ([5], [5]), ([6], [6]), ([], []), ([8], [8]), ([], []), ([9, 10], [9, 10]), ([11], [11]), ([12], [12]), ([13, 7], [13]), ([7, 14], [7, 14]), ([0, 15, 14], [0, 15]), ([16, 16, 0, 1, 2, 3, 4, 5, 6, 7, 8, 9, 10, 11, 12, 13, 14, 15, 16], [0, 16])])
def tattlerref22_Body.B36 : List Nat := [0, 0, 2, 0, 14, 30, 62, 126, 0, 256, 0, 1792, 3840, 7936, 16382, 32766, 65535, 131071]
theorem tattlerref22_Body.tab36 : rtab .any (opsOf Try.f26 36) = tattlerref22_Body.T36 := by kernel_rfl
theorem tattlerref22_Body.bits36 : waitsOk tattlerref22_Body.T36.2 tattlerref22_Body.B36 = true := by kernel_rfl
set_option maxHeartbeats 8000000 in
set_option maxRecDepth 100000 in
theorem tattlerref22_Body.calls (k : Nat) (a0_0 : Int) (a0_1 : Int) (a0_2 : Int) (a0_3 : Int) (a0_4 : Int) (a0_5 : Int) (a0_6 : Bool) (A0_7 : Option Addr) (c0_7 : Nat) (l0_7 : List (S72)) (A0_8 : Option Addr) (c0_8 : Nat) (l0_8 : List ByteArray) (A0_9 : Option Addr) (c0_9 : Nat) (l0_9 : List (S54)) (A0_10 : Option Addr) (c0_10 : Nat) (l0_10 : List (S56)) (A0_11 : Option Addr) (c0_11 : Nat) (l0_11 : List Int) (r : ByteArray) (w : World) (hr0_7 : Kd.C k72 w A0_7 l0_7.length l0_7) (hc0_7 : l0_7.length ≤ c0_7) (hr0_8 : Kd.C Kd.string w A0_8 l0_8.length l0_8) (hc0_8 : l0_8.length ≤ c0_8) (hr0_9 : Kd.C k54 w A0_9 l0_9.length l0_9) (hc0_9 : l0_9.length ≤ c0_9) (hr0_10 : Kd.C k56 w A0_10 l0_10.length l0_10) (hc0_10 : l0_10.length ≤ c0_10) (hr0_11 : Kd.C (Kd.int .u64) w A0_11 l0_11.length l0_11) (hc0_11 : l0_11.length ≤ c0_11) (h : tattlerref22_Body.f k a0_0 a0_1 a0_2 a0_3 a0_4 a0_5 a0_6 l0_7 l0_8 l0_9 l0_10 l0_11 = some r) :
    Calls Try.prog 26 #[.agg #[.int .u8 a0_0, .int .u8 a0_1, .int .u8 a0_2, .int .u32 a0_3, .int .u8 a0_4, .int .u8 a0_5, .bool a0_6, .slice A0_7 l0_7.length c0_7, .slice A0_8 l0_8.length c0_8, .slice A0_9 l0_9.length c0_9, .slice A0_10 l0_10.length c0_10, .slice A0_11 l0_11.length c0_11]] w fun e w' => e = .returned (.string r) ∧ Below w.heap.size w w' := by
 have hu29 := Try.underlying29
 have hu72 := Try.underlying72
 have hu54 := Try.underlying54
 have hu56 := Try.underlying56
 have HR0_7 := Aside0.mk hr0_7
 have HC0_7 := Aside0.mk hc0_7
 clear hr0_7 hc0_7
 have HR0_8 := Aside0.mk hr0_8
 have HC0_8 := Aside0.mk hc0_8
 clear hr0_8 hc0_8
 have HR0_9 := Aside0.mk hr0_9
 have HC0_9 := Aside0.mk hc0_9
 clear hr0_9 hc0_9
 have HR0_10 := Aside0.mk hr0_10
 have HC0_10 := Aside0.mk hc0_10
 clear hr0_10 hc0_10
 have HR0_11 := Aside0.mk hr0_11
 have HC0_11 := Aside0.mk hc0_11
 clear hr0_11 hc0_11
 have HB := Aside0.mk (Below.refl w.heap.size w)
 have H : ((tattlerref22_put.f (IntKind.u64.wrap (a0_3))).bind fun t122 => ((tattlerref22_put.f (IntKind.u64.wrap (a0_4))).bind fun t123 => (if t122.size + t123.size ≤ 9223372036854775807 then ((tattlerref22_put.f (IntKind.u64.wrap (a0_5))).bind fun t124 => (if (t122 ++ t123).size + t124.size ≤ 9223372036854775807 then (if ((t122 ++ t123) ++ t124).size < 140737488355328 then ((some (bytesOf ((t122 ++ t123) ++ t124) : List Int)).bind fun y125 => (if a0_6 = true then (if y125.length < 140737488355328 then (tattlerref22_Body.j0 k (y125 ++ [1]) a0_0 a0_1 a0_2 a0_3 a0_4 a0_5 a0_6 l0_7 l0_8 l0_9 l0_10 l0_11) else (none)) else (if y125.length < 140737488355328 then (tattlerref22_Body.j0 k (y125 ++ [0]) a0_0 a0_1 a0_2 a0_3 a0_4 a0_5 a0_6 l0_7 l0_8 l0_9 l0_10 l0_11) else (none)))) else (none)) else (none))) else (none)))) = some r := h
 clear h
 replace H := Option.bind_eq_some_iff.mp H
 obtain ⟨t122, A20, H⟩ := H
 replace H : ((tattlerref22_put.f (IntKind.u64.wrap (a0_4))).bind fun t123 => (if t122.size + t123.size ≤ 9223372036854775807 then ((tattlerref22_put.f (IntKind.u64.wrap (a0_5))).bind fun t124 => (if (t122 ++ t123).size + t124.size ≤ 9223372036854775807 then (if ((t122 ++ t123) ++ t124).size < 140737488355328 then ((some (bytesOf ((t122 ++ t123) ++ t124) : List Int)).bind fun y125 => (if a0_6 = true then (if y125.length < 140737488355328 then (tattlerref22_Body.j0 k (y125 ++ [1]) a0_0 a0_1 a0_2 a0_3 a0_4 a0_5 a0_6 l0_7 l0_8 l0_9 l0_10 l0_11) else (none)) else (if y125.length < 140737488355328 then (tattlerref22_Body.j0 k (y125 ++ [0]) a0_0 a0_1 a0_2 a0_3 a0_4 a0_5 a0_6 l0_7 l0_8 l0_9 l0_10 l0_11) else (none)))) else (none)) else (none))) else (none))) = some r := H
 have A2 := Aside0.mk A20
 clear A20
 replace H := Option.bind_eq_some_iff.mp H
 obtain ⟨t123, A30, H⟩ := H
 replace H : (if t122.size + t123.size ≤ 9223372036854775807 then ((tattlerref22_put.f (IntKind.u64.wrap (a0_5))).bind fun t124 => (if (t122 ++ t123).size + t124.size ≤ 9223372036854775807 then (if ((t122 ++ t123) ++ t124).size < 140737488355328 then ((some (bytesOf ((t122 ++ t123) ++ t124) : List Int)).bind fun y125 => (if a0_6 = true then (if y125.length < 140737488355328 then (tattlerref22_Body.j0 k (y125 ++ [1]) a0_0 a0_1 a0_2 a0_3 a0_4 a0_5 a0_6 l0_7 l0_8 l0_9 l0_10 l0_11) else (none)) else (if y125.length < 140737488355328 then (tattlerref22_Body.j0 k (y125 ++ [0]) a0_0 a0_1 a0_2 a0_3 a0_4 a0_5 a0_6 l0_7 l0_8 l0_9 l0_10 l0_11) else (none)))) else (none)) else (none))) else (none)) = some r := H
 have A3 := Aside0.mk A30
 clear A30
 by_cases c4 : t122.size + t123.size ≤ 9223372036854775807
 rotate_left
 ·
  rw [if_neg c4] at H
  exact absurd H (by simp)
 rw [if_pos c4] at H
 have c4b0 := eq_true c4
 have c4b1 : decide (t122.size + t123.size ≤ 9223372036854775807) = true := decide_eq_true c4
 try have c4b2 : (9223372036854775807 < t122.size + t123.size) = False := eq_false (Nat.not_lt.2 c4)
 replace H := Option.bind_eq_some_iff.mp H
 obtain ⟨t124, A50, H⟩ := H
 replace H : (if (t122 ++ t123).size + t124.size ≤ 9223372036854775807 then (if ((t122 ++ t123) ++ t124).size < 140737488355328 then ((some (bytesOf ((t122 ++ t123) ++ t124) : List Int)).bind fun y125 => (if a0_6 = true then (if y125.length < 140737488355328 then (tattlerref22_Body.j0 k (y125 ++ [1]) a0_0 a0_1 a0_2 a0_3 a0_4 a0_5 a0_6 l0_7 l0_8 l0_9 l0_10 l0_11) else (none)) else (if y125.length < 140737488355328 then (tattlerref22_Body.j0 k (y125 ++ [0]) a0_0 a0_1 a0_2 a0_3 a0_4 a0_5 a0_6 l0_7 l0_8 l0_9 l0_10 l0_11) else (none)))) else (none)) else (none)) = some r := H
 have A5 := Aside0.mk A50
 clear A50
 by_cases c6 : (t122 ++ t123).size + t124.size ≤ 9223372036854775807
 rotate_left
 ·
  rw [if_neg c6] at H
  exact absurd H (by simp)
 rw [if_pos c6] at H
 have c6b0 := eq_true c6
 have c6b1 : decide ((t122 ++ t123).size + t124.size ≤ 9223372036854775807) = true := decide_eq_true c6
 try have c6b2 : (9223372036854775807 < (t122 ++ t123).size + t124.size) = False := eq_false (Nat.not_lt.2 c6)
 try (have c6b3 := c6b2; simp only [ByteArray.size_append] at c6b3)
 by_cases c7 : ((t122 ++ t123) ++ t124).size < 140737488355328
 rotate_left
 ·
  rw [if_neg c7] at H
  exact absurd H (by simp)
 rw [if_pos c7] at H
 have LMc7 := Aside0.mk c7
 clear c7
 obtain ⟨y125, hy125⟩ : ∃ y_ : List Int, y_ = (bytesOf ((t122 ++ t123) ++ t124)) := ⟨_, rfl⟩
 replace H : (if a0_6 = true then (if y125.length < 140737488355328 then (tattlerref22_Body.j0 k (y125 ++ [1]) a0_0 a0_1 a0_2 a0_3 a0_4 a0_5 a0_6 l0_7 l0_8 l0_9 l0_10 l0_11) else (none)) else (if y125.length < 140737488355328 then (tattlerref22_Body.j0 k (y125 ++ [0]) a0_0 a0_1 a0_2 a0_3 a0_4 a0_5 a0_6 l0_7 l0_8 l0_9 l0_10 l0_11) else (none))) = some r := by first | (rw [hy125]; with_reducible exact H) | (have H2_ := (Option.bind_some _ _).symm.trans H; rw [hy125]; with_reducible exact H2_) | (have H2_ := (Option.bind_some _ _).symm.trans H; with_reducible exact H2_) | with_reducible exact H | (rw [hy125]; exact H) | exact H
 have Ny125 := Aside0.mk hy125
 clear hy125
 have HC8 := Aside0.mk H
 clear H
 go_enter Try.func26, Try.ntmps26
 try go_wp2_with (first | ((with_reducible refine gate_dst (N := 1) rfl ?_); refine box_event ?hg (N := 1) ?hd (cs := #[.int .u8 a0_0, .int .u8 a0_1, .int .u8 a0_2, .int .u32 a0_3, .int .u8 a0_4, .int .u8 a0_5, .bool a0_6, .slice A0_7 l0_7.length c0_7, .slice A0_8 l0_8.length c0_8, .slice A0_9 l0_9.length c0_9, .slice A0_10 l0_10.length c0_10, .slice A0_11 l0_11.length c0_11]) (t := 29) ?hr ?_; (case hd => rfl); (case hg => rfl); (case hr => first | (go_simp; done) | (go_simp; rfl)); intro gb121 hg w9 hbox hb; have n0_ := Aside0.mk (below_step (by repeat (first | (with_reducible first | exact HB.out | apply qA | apply qN | apply qD) | exact HB.out)) hb); have n1_ := Aside0.mk (hbox); have n2_ := Aside0.mk ((by rw [hg]; exact (below_size (by repeat (first | (with_reducible first | exact HB.out | apply qA | apply qN | apply qD) | exact HB.out))) : w.heap.size ≤ gb121)); have n3_ := Aside0.mk ((by rw [hg]; exact (below_size (by repeat (first | (with_reducible first | exact HB.out | apply qA | apply qN | apply qD) | exact HB.out))) : w.heap.size ≤ gb121)); clear HB; have HB := n0_; have BK121 := n1_; have GW121 := n2_; have GE121 := n3_; clear n0_ n1_ n2_ n3_; clear hb hbox hg))
 have n0_ := Aside0.mk (blk_drew BK121.out)
 have n1_ := Aside0.mk (below_drew1 HB.out)
 clear BK121
 clear HB
 have BK121 := n0_
 have HB := n1_
 clear n0_ n1_
 refine start_ (n := 16) (S := fun w' => w'.cell? ⟨gb121, 0, none⟩ = some (.int .u8 a0_0) ∧ w'.cell? ⟨gb121, 1, none⟩ = some (.int .u8 a0_1) ∧ w'.cell? ⟨gb121, 2, none⟩ = some (.int .u8 a0_2) ∧ w'.cell? ⟨gb121, 3, none⟩ = some (.int .u32 a0_3) ∧ w'.cell? ⟨gb121, 4, none⟩ = some (.int .u8 a0_4) ∧ w'.cell? ⟨gb121, 5, none⟩ = some (.int .u8 a0_5) ∧ w'.cell? ⟨gb121, 6, none⟩ = some (.bool a0_6) ∧ w'.cell? ⟨gb121, 7, none⟩ = some (.slice A0_7 l0_7.length c0_7) ∧ w'.cell? ⟨gb121, 8, none⟩ = some (.slice A0_8 l0_8.length c0_8) ∧ w'.cell? ⟨gb121, 9, none⟩ = some (.slice A0_9 l0_9.length c0_9) ∧ w'.cell? ⟨gb121, 10, none⟩ = some (.slice A0_10 l0_10.length c0_10) ∧ w'.cell? ⟨gb121, 11, none⟩ = some (.slice A0_11 l0_11.length c0_11)) (ds := []) #[false, false, false, false, false, false, false, false, false, false, false, false, false, false, false, false] (by kernel_rfl) rfl rfl ⟨(blk_cell BK121.out 0).trans rfl, (blk_cell BK121.out 1).trans rfl, (blk_cell BK121.out 2).trans rfl, (blk_cell BK121.out 3).trans rfl, (blk_cell BK121.out 4).trans rfl, (blk_cell BK121.out 5).trans rfl, (blk_cell BK121.out 6).trans rfl, (blk_cell BK121.out 7).trans rfl, (blk_cell BK121.out 8).trans rfl, (blk_cell BK121.out 9).trans rfl, (blk_cell BK121.out 10).trans rfl, (blk_cell BK121.out 11).trans rfl⟩ (fun hHeld => ?_); refine with_tabW tattlerref22_Body.tab1 tattlerref22_Body.bits1 (fun HT_ HW_ => ?_)
 generalize w9.drew = w10 at BK121 HB hHeld ⊢
 refine pure_ (i := 0) (N := some 13) (v := ?_) (a' := ?_) #[true, false, false, false, false, false, false, false, false, false, false, false, false, false, false, false] rfl rfl (any_of HT_.out (by kernel_rfl)) (fun _ _ _ h => h) (Or.inl ⟨by rfl, ?_⟩) ?_ ?_
 rotate_left
 ·
  intro w'
  go_simp
  with_reducible rfl
 rotate_left
 ·
  simp only [Act.put, List.setIfInBounds_toArray, List.set_cons_zero, List.set_cons_succ, i64_w, i32_w]
  rfl
 refine pure_ (i := 4) (N := some 17) (v := ?_) (a' := ?_) #[true, false, false, false, true, false, false, false, false, false, false, false, false, false, false, false] rfl rfl (any_of HT_.out (by kernel_rfl)) (fun _ _ _ h => h) (Or.inl ⟨by rfl, ?_⟩) ?_ ?_
 rotate_left
 ·
  intro w'
  go_simp
  with_reducible rfl
 rotate_left
 ·
  simp only [Act.put, List.setIfInBounds_toArray, List.set_cons_zero, List.set_cons_succ, i64_w, i32_w]
  rfl
 refine pure_ (i := 9) (N := some 22) (v := ?_) (a' := ?_) #[true, false, false, false, true, false, false, false, false, true, false, false, false, false, false, false] rfl rfl (any_of HT_.out (by kernel_rfl)) (fun _ _ _ h => h) (Or.inl ⟨by rfl, ?_⟩) ?_ ?_
 rotate_left
 ·
  intro w'
  go_simp
  with_reducible rfl
 rotate_left
 ·
  simp only [Act.put, List.setIfInBounds_toArray, List.set_cons_zero, List.set_cons_succ, i64_w, i32_w]
  rfl
 refine take_ (i := 1) (N := some 14) (v := ?_) (a' := ?_) #[true, true, false, false, true, false, false, false, false, true, false, false, false, false, false, false] rfl rfl (take_ofW HT_.out HW_.out (by kernel_rfl)) (fun _ _ _ h => h) (Or.inl ⟨by rfl, ?_⟩) hHeld ?_ ?_
 rotate_left
 ·
  rintro w' ⟨s0, s1, s2, s3, s4, s5, s6, s7, s8, s9, s10, s11⟩
  go_simp
  with_reducible rfl
 rotate_left
 ·
  simp only [Act.put, List.setIfInBounds_toArray, List.set_cons_zero, List.set_cons_succ, i64_w, i32_w]
  rfl
 refine pure_ (i := 2) (N := some 15) (v := ?_) (a' := ?_) #[true, true, true, false, true, false, false, false, false, true, false, false, false, false, false, false] rfl rfl (any_of HT_.out (by kernel_rfl)) (fun _ _ _ h => h) (Or.inl ⟨by rfl, ?_⟩) ?_ ?_
 rotate_left
 ·
  intro w'
  go_simp
  with_reducible rfl
 rotate_left
 ·
  simp only [Act.put, List.setIfInBounds_toArray, List.set_cons_zero, List.set_cons_succ, i64_w, i32_w]
  rfl
 refine take_ (i := 5) (N := some 18) (v := ?_) (a' := ?_) #[true, true, true, false, true, true, false, false, false, true, false, false, false, false, false, false] rfl rfl (take_ofW HT_.out HW_.out (by kernel_rfl)) (fun _ _ _ h => h) (Or.inl ⟨by rfl, ?_⟩) hHeld ?_ ?_
 rotate_left
 ·
  rintro w' ⟨s0, s1, s2, s3, s4, s5, s6, s7, s8, s9, s10, s11⟩
  go_simp
  with_reducible rfl
 rotate_left
 ·
  simp only [Act.put, List.setIfInBounds_toArray, List.set_cons_zero, List.set_cons_succ, i64_w, i32_w]
  rfl
 refine pure_ (i := 6) (N := some 19) (v := ?_) (a' := ?_) #[true, true, true, false, true, true, true, false, false, true, false, false, false, false, false, false] rfl rfl (any_of HT_.out (by kernel_rfl)) (fun _ _ _ h => h) (Or.inl ⟨by rfl, ?_⟩) ?_ ?_
 rotate_left
 ·
  intro w'
  go_simp
  with_reducible rfl
 rotate_left
 ·
  simp only [Act.put, List.setIfInBounds_toArray, List.set_cons_zero, List.set_cons_succ, i64_w, i32_w]
  rfl
 refine take_ (i := 10) (N := some 23) (v := ?_) (a' := ?_) #[true, true, true, false, true, true, true, false, false, true, true, false, false, false, false, false] rfl rfl (take_ofW HT_.out HW_.out (by kernel_rfl)) (fun _ _ _ h => h) (Or.inl ⟨by rfl, ?_⟩) hHeld ?_ ?_
 rotate_left
 ·
  rintro w' ⟨s0, s1, s2, s3, s4, s5, s6, s7, s8, s9, s10, s11⟩
  go_simp
  with_reducible rfl
 rotate_left
 ·
  simp only [Act.put, List.setIfInBounds_toArray, List.set_cons_zero, List.set_cons_succ, i64_w, i32_w]
  rfl
 refine pure_ (i := 11) (N := some 24) (v := ?_) (a' := ?_) #[true, true, true, false, true, true, true, false, false, true, true, true, false, false, false, false] rfl rfl (any_of HT_.out (by kernel_rfl)) (fun _ _ _ h => h) (Or.inl ⟨by rfl, ?_⟩) ?_ ?_
 rotate_left
 ·
  intro w'
  go_simp
  with_reducible rfl
 rotate_left
 ·
  simp only [Act.put, List.setIfInBounds_toArray, List.set_cons_zero, List.set_cons_succ, i64_w, i32_w]
  rfl
 refine one_ (i := 3) (N := some 16) #[true, true, true, true, true, true, true, false, false, true, true, true, false, false, false, false] rfl rfl (one_of HT_.out (by kernel_rfl)) (by decide) (fun K hK => ?_)
 refine goes_ Try.func69 (by kernel_rfl) rfl #[.int .u64 (IntKind.u64.wrap (a0_3))] (by rfl) rfl rfl (by (try simp only [List.map_toArray, List.map_cons, List.map_nil]); first | done | rfl | (simp only [List.length_drop, List.length_take]; rfl)) ?_
 with_reducible refine (tattlerref22_put.calls (IntKind.u64.wrap (a0_3)) t122 _ A2.out).mono ?_
 rintro e w11 ⟨rfl, hb⟩
 refine ⟨_, rfl, ?_⟩
 have n0_ := Aside0.mk (blk_below (g := gb121) (o := .cells #[.int .u8 a0_0, .int .u8 a0_1, .int .u8 a0_2, .int .u32 a0_3, .int .u8 a0_4, .int .u8 a0_5, .bool a0_6, .slice A0_7 l0_7.length c0_7, .slice A0_8 l0_8.length c0_8, .slice A0_9 l0_9.length c0_9, .slice A0_10 l0_10.length c0_10, .slice A0_11 l0_11.length c0_11] 29 (0, 0)) (by (with_reducible repeat (first | refine bN ?_ _ | refine bD ?_ | refine bA ?_ _)); exact BK121.out) hb)
 have n1_ := Aside0.mk (below_step (by repeat (first | (with_reducible first | exact HB.out | apply qA | apply qN | apply qD | refine below_set ?_ GE121.out) | exact HB.out)) hb)
 clear BK121
 clear HB
 have BK121 := n0_
 have HB := n1_
 clear n0_ n1_
 (try clear hb)
 (try clear hb2)
 (try clear hk)
 (try clear hi)
 refine hK.out _ _ ⟨(blk_cell BK121.out 0).trans rfl, (blk_cell BK121.out 1).trans rfl, (blk_cell BK121.out 2).trans rfl, (blk_cell BK121.out 3).trans rfl, (blk_cell BK121.out 4).trans rfl, (blk_cell BK121.out 5).trans rfl, (blk_cell BK121.out 6).trans rfl, (blk_cell BK121.out 7).trans rfl, (blk_cell BK121.out 8).trans rfl, (blk_cell BK121.out 9).trans rfl, (blk_cell BK121.out 10).trans rfl, (blk_cell BK121.out 11).trans rfl⟩ (fun hHeld => ?_)
 clear hK K
 refine norm_ (a' := ?_) ?_ ?_
 rotate_left
 ·
  show Act.put _ (some 16) _ = _
  simp only [Act.put, List.setIfInBounds_toArray, List.set_cons_zero, List.set_cons_succ, i64_w, i32_w]
  rfl
 refine one_ (i := 7) (N := some 20) #[true, true, true, true, true, true, true, true, false, true, true, true, false, false, false, false] rfl rfl (one_of HT_.out (by kernel_rfl)) (by decide) (fun K hK => ?_)
 refine goes_ Try.func69 (by kernel_rfl) rfl #[.int .u64 (IntKind.u64.wrap (a0_4))] (by rfl) rfl rfl (by (try simp only [List.map_toArray, List.map_cons, List.map_nil]); first | done | rfl | (simp only [List.length_drop, List.length_take]; rfl)) ?_
 with_reducible refine (tattlerref22_put.calls (IntKind.u64.wrap (a0_4)) t123 _ A3.out).mono ?_
 rintro e w12 ⟨rfl, hb⟩
 refine ⟨_, rfl, ?_⟩
 have n0_ := Aside0.mk (blk_below (g := gb121) (o := .cells #[.int .u8 a0_0, .int .u8 a0_1, .int .u8 a0_2, .int .u32 a0_3, .int .u8 a0_4, .int .u8 a0_5, .bool a0_6, .slice A0_7 l0_7.length c0_7, .slice A0_8 l0_8.length c0_8, .slice A0_9 l0_9.length c0_9, .slice A0_10 l0_10.length c0_10, .slice A0_11 l0_11.length c0_11] 29 (0, 0)) (by (with_reducible repeat (first | refine bN ?_ _ | refine bD ?_ | refine bA ?_ _)); exact BK121.out) hb)
 have n1_ := Aside0.mk (below_step (by repeat (first | (with_reducible first | exact HB.out | apply qA | apply qN | apply qD | refine below_set ?_ GE121.out) | exact HB.out)) hb)
 clear BK121
 clear HB
 have BK121 := n0_
 have HB := n1_
 clear n0_ n1_
 (try clear hb)
 (try clear hb2)
 (try clear hk)
 (try clear hi)
 refine hK.out _ _ ⟨(blk_cell BK121.out 0).trans rfl, (blk_cell BK121.out 1).trans rfl, (blk_cell BK121.out 2).trans rfl, (blk_cell BK121.out 3).trans rfl, (blk_cell BK121.out 4).trans rfl, (blk_cell BK121.out 5).trans rfl, (blk_cell BK121.out 6).trans rfl, (blk_cell BK121.out 7).trans rfl, (blk_cell BK121.out 8).trans rfl, (blk_cell BK121.out 9).trans rfl, (blk_cell BK121.out 10).trans rfl, (blk_cell BK121.out 11).trans rfl⟩ (fun hHeld => ?_)
 clear hK K
 refine norm_ (a' := ?_) ?_ ?_
 rotate_left
 ·
  show Act.put _ (some 20) _ = _
  simp only [Act.put, List.setIfInBounds_toArray, List.set_cons_zero, List.set_cons_succ, i64_w, i32_w]
  rfl
 refine pure_ (i := 8) (N := some 21) (v := ?_) (a' := ?_) #[true, true, true, true, true, true, true, true, true, true, true, true, false, false, false, false] rfl rfl (any_of HT_.out (by kernel_rfl)) (fun _ _ _ h => h) (Or.inl ⟨by rfl, ?_⟩) ?_ ?_
 rotate_left
 ·
  intro w'
  go_simp
  with_reducible rfl
 rotate_left
 ·
  simp only [Act.put, List.setIfInBounds_toArray, List.set_cons_zero, List.set_cons_succ, i64_w, i32_w]
  rfl
 refine one_ (i := 12) (N := some 25) #[true, true, true, true, true, true, true, true, true, true, true, true, true, false, false, false] rfl rfl (one_of HT_.out (by kernel_rfl)) (by decide) (fun K hK => ?_)
 refine goes_ Try.func69 (by kernel_rfl) rfl #[.int .u64 (IntKind.u64.wrap (a0_5))] (by rfl) rfl rfl (by (try simp only [List.map_toArray, List.map_cons, List.map_nil]); first | done | rfl | (simp only [List.length_drop, List.length_take]; rfl)) ?_
 with_reducible refine (tattlerref22_put.calls (IntKind.u64.wrap (a0_5)) t124 _ A5.out).mono ?_
 rintro e w13 ⟨rfl, hb⟩
 refine ⟨_, rfl, ?_⟩
 have n0_ := Aside0.mk (blk_below (g := gb121) (o := .cells #[.int .u8 a0_0, .int .u8 a0_1, .int .u8 a0_2, .int .u32 a0_3, .int .u8 a0_4, .int .u8 a0_5, .bool a0_6, .slice A0_7 l0_7.length c0_7, .slice A0_8 l0_8.length c0_8, .slice A0_9 l0_9.length c0_9, .slice A0_10 l0_10.length c0_10, .slice A0_11 l0_11.length c0_11] 29 (0, 0)) (by (with_reducible repeat (first | refine bN ?_ _ | refine bD ?_ | refine bA ?_ _)); exact BK121.out) hb)
 have n1_ := Aside0.mk (below_step (by repeat (first | (with_reducible first | exact HB.out | apply qA | apply qN | apply qD | refine below_set ?_ GE121.out) | exact HB.out)) hb)
 clear BK121
 clear HB
 have BK121 := n0_
 have HB := n1_
 clear n0_ n1_
 (try clear hb)
 (try clear hb2)
 (try clear hk)
 (try clear hi)
 refine hK.out _ _ ⟨(blk_cell BK121.out 0).trans rfl, (blk_cell BK121.out 1).trans rfl, (blk_cell BK121.out 2).trans rfl, (blk_cell BK121.out 3).trans rfl, (blk_cell BK121.out 4).trans rfl, (blk_cell BK121.out 5).trans rfl, (blk_cell BK121.out 6).trans rfl, (blk_cell BK121.out 7).trans rfl, (blk_cell BK121.out 8).trans rfl, (blk_cell BK121.out 9).trans rfl, (blk_cell BK121.out 10).trans rfl, (blk_cell BK121.out 11).trans rfl⟩ (fun hHeld => ?_)
 clear hK K
 refine norm_ (a' := ?_) ?_ ?_
 rotate_left
 ·
  show Act.put _ (some 25) _ = _
  simp only [Act.put, List.setIfInBounds_toArray, List.set_cons_zero, List.set_cons_succ, i64_w, i32_w]
  rfl
 refine pure_ (i := 13) (N := some 26) (v := ?_) (a' := ?_) #[true, true, true, true, true, true, true, true, true, true, true, true, true, true, false, false] rfl rfl (any_of HT_.out (by kernel_rfl)) (fun _ _ _ h => h) (Or.inl ⟨by rfl, ?_⟩) ?_ ?_
 rotate_left
 ·
  intro w'
  go_simp
  with_reducible rfl
 rotate_left
 ·
  simp only [Act.put, List.setIfInBounds_toArray, List.set_cons_zero, List.set_cons_succ, i64_w, i32_w]
  rfl
 refine one_ (i := 14) (N := some 27) #[true, true, true, true, true, true, true, true, true, true, true, true, true, true, true, false] rfl rfl (one_of HT_.out (by kernel_rfl)) (by decide) (fun K hK => ?_)
 refine BRow.conv_str_step (w0 := w) w.heap.size (by rfl) (.tmp 26) 9 63 5 rfl Try.underlying9 Try.underlying63 Try.underlying5 info5 ((t122 ++ t123) ++ t124) rfl ?aB ?aS ?aL ?_
 (case aB => exact (by repeat (first | (with_reducible first | exact HB.out | apply qA | apply qN | apply qD | refine below_set ?_ GE121.out) | exact HB.out)))
 (case aS => exact (below_size (by repeat (first | (with_reducible first | exact HB.out | apply qA | apply qN | apply qD | refine below_set ?_ GE121.out) | exact HB.out))))
 (case aL => have := LMc7.out; omega)
 intro v126 w14 ho0 hb hg
 have ho := BRow.R_of_own (ok := fun _ => True) ho0 (fun _ _ => trivial)
 clear ho0
 have hat := True.intro
 rw [← Ny125.out] at ho
 change BRow.R 5 w14 w.heap.size (fun _ => True) v126 y125 at ho
 have n0_ := Aside0.mk (blk_grown (g := gb121) (o := .cells #[.int .u8 a0_0, .int .u8 a0_1, .int .u8 a0_2, .int .u32 a0_3, .int .u8 a0_4, .int .u8 a0_5, .bool a0_6, .slice A0_7 l0_7.length c0_7, .slice A0_8 l0_8.length c0_8, .slice A0_9 l0_9.length c0_9, .slice A0_10 l0_10.length c0_10, .slice A0_11 l0_11.length c0_11] 29 (0, 0)) (by (with_reducible repeat (first | refine bN ?_ _ | refine bD ?_ | refine bA ?_ _)); exact BK121.out) hg (by simp [Value.ownBlock]))
 have n1_ := Aside0.mk (hb)
 have n2_ := Aside0.mk (ho)
 clear BK121
 clear HB
 have BK121 := n0_
 have HB := n1_
 have HO127 := n2_
 clear n0_ n1_ n2_
 clear ho hb hg hat
 refine hK.out _ _ ⟨(blk_cell BK121.out 0).trans rfl, (blk_cell BK121.out 1).trans rfl, (blk_cell BK121.out 2).trans rfl, (blk_cell BK121.out 3).trans rfl, (blk_cell BK121.out 4).trans rfl, (blk_cell BK121.out 5).trans rfl, (blk_cell BK121.out 6).trans rfl, (blk_cell BK121.out 7).trans rfl, (blk_cell BK121.out 8).trans rfl, (blk_cell BK121.out 9).trans rfl, (blk_cell BK121.out 10).trans rfl, (blk_cell BK121.out 11).trans rfl⟩ (fun hHeld => ?_)
 clear hK K
 refine norm_ (a' := ?_) ?_ ?_
 rotate_left
 ·
  show Act.put _ (some 27) _ = _
  simp only [Act.put, List.setIfInBounds_toArray, List.set_cons_zero, List.set_cons_succ, i64_w, i32_w]
  rfl
 refine pure_ (i := 15) (N := some 3) (v := ?_) (a' := ?_) #[true, true, true, true, true, true, true, true, true, true, true, true, true, true, true, true] rfl rfl (any_of HT_.out (by kernel_rfl)) (fun _ _ _ h => h) (Or.inl ⟨by rfl, ?_⟩) ?_ ?_
 rotate_left
 ·
  intro w'
  go_simp
  with_reducible rfl
 rotate_left
 ·
  simp only [Act.put, List.setIfInBounds_toArray, List.set_cons_zero, List.set_cons_succ, i64_w, i32_w]
  rfl
 refine done_ (done_of HT_.out (by kernel_rfl)) ?_
 have hcz15_0 : w14.cell? ⟨gb121, 0, none⟩ = some (.int .u8 a0_0) := (blk_cell BK121.out 0).trans rfl
 have hcz15_1 : w14.cell? ⟨gb121, 1, none⟩ = some (.int .u8 a0_1) := (blk_cell BK121.out 1).trans rfl
 have hcz15_2 : w14.cell? ⟨gb121, 2, none⟩ = some (.int .u8 a0_2) := (blk_cell BK121.out 2).trans rfl
 have hcz15_3 : w14.cell? ⟨gb121, 3, none⟩ = some (.int .u32 a0_3) := (blk_cell BK121.out 3).trans rfl
 have hcz15_4 : w14.cell? ⟨gb121, 4, none⟩ = some (.int .u8 a0_4) := (blk_cell BK121.out 4).trans rfl
 have hcz15_5 : w14.cell? ⟨gb121, 5, none⟩ = some (.int .u8 a0_5) := (blk_cell BK121.out 5).trans rfl
 have hcz15_6 : w14.cell? ⟨gb121, 6, none⟩ = some (.bool a0_6) := (blk_cell BK121.out 6).trans rfl
 have hcz15_7 : w14.cell? ⟨gb121, 7, none⟩ = some (.slice A0_7 l0_7.length c0_7) := (blk_cell BK121.out 7).trans rfl
 have hcz15_8 : w14.cell? ⟨gb121, 8, none⟩ = some (.slice A0_8 l0_8.length c0_8) := (blk_cell BK121.out 8).trans rfl
 have hcz15_9 : w14.cell? ⟨gb121, 9, none⟩ = some (.slice A0_9 l0_9.length c0_9) := (blk_cell BK121.out 9).trans rfl
 have hcz15_10 : w14.cell? ⟨gb121, 10, none⟩ = some (.slice A0_10 l0_10.length c0_10) := (blk_cell BK121.out 10).trans rfl
 have hcz15_11 : w14.cell? ⟨gb121, 11, none⟩ = some (.slice A0_11 l0_11.length c0_11) := (blk_cell BK121.out 11).trans rfl
 have hfz15_0 := blk_frozen BK121.out 0
 have hfz15_1 := blk_frozen BK121.out 1
 have hfz15_2 := blk_frozen BK121.out 2
 have hfz15_3 := blk_frozen BK121.out 3
 have hfz15_4 := blk_frozen BK121.out 4
 have hfz15_5 := blk_frozen BK121.out 5
 have hfz15_6 := blk_frozen BK121.out 6
 have hfz15_7 := blk_frozen BK121.out 7
 have hfz15_8 := blk_frozen BK121.out 8
 have hfz15_9 := blk_frozen BK121.out 9
 have hfz15_10 := blk_frozen BK121.out 10
 have hfz15_11 := blk_frozen BK121.out 11
 go_upto_if 29 with (fail)
 go_cut [3] (fun v3 wc => ∃ (kq : Nat) (x3_7 : List Int), Aside0 (tattlerref22_Body.j0 kq x3_7 a0_0 a0_1 a0_2 a0_3 a0_4 a0_5 a0_6 l0_7 l0_8 l0_9 l0_10 l0_11 = some r) ∧ Aside0 (kq ≤ k) ∧ Aside0 (BRow.R 5 wc w.heap.size (fun _ => True) v3 x3_7) ∧ Aside0 (wc.heap[gb121]? = some (.cells #[.int .u8 a0_0, .int .u8 a0_1, .int .u8 a0_2, .int .u32 a0_3, .int .u8 a0_4, .int .u8 a0_5, .bool a0_6, (.slice A0_7 l0_7.length c0_7), (.slice A0_8 l0_8.length c0_8), (.slice A0_9 l0_9.length c0_9), (.slice A0_10 l0_10.length c0_10), (.slice A0_11 l0_11.length c0_11)] 29 (0, 0))) ∧ Aside0 (Below w.heap.size w wc))
 case first =>
  have H := HC8.out
  clear HC8
  by_cases c16 : a0_6 = true
  ·
   subst c16
   have H1 : (if y125.length < 140737488355328 then (tattlerref22_Body.j0 k (y125 ++ [1]) a0_0 a0_1 a0_2 a0_3 a0_4 a0_5 true l0_7 l0_8 l0_9 l0_10 l0_11) else (none)) = some r := by rw [if_pos rfl] at H; exact H
   clear H
   have H := H1
   clear H1
   by_cases c17 : y125.length < 140737488355328
   rotate_left
   ·
    rw [if_neg c17] at H
    exact absurd H (by simp)
   rw [if_pos c17] at H
   have LMc17 := Aside0.mk c17
   clear c17
   obtain ⟨y128, hy128⟩ : ∃ y_ : List Int, y_ = (y125 ++ [1]) := ⟨_, rfl⟩
   replace H : (tattlerref22_Body.j0 k y128 a0_0 a0_1 a0_2 a0_3 a0_4 a0_5 true l0_7 l0_8 l0_9 l0_10 l0_11) = some r := by first | (rw [hy128]; with_reducible exact H) | (have H2_ := (Option.bind_some _ _).symm.trans H; rw [hy128]; with_reducible exact H2_) | (have H2_ := (Option.bind_some _ _).symm.trans H; with_reducible exact H2_) | with_reducible exact H | (rw [hy128]; exact H) | exact H
   have Ny128 := Aside0.mk hy128
   clear hy128
   have H' := Aside0.mk H
   clear H
   go_wp2_with (first | ((with_reducible refine gate_builtin (b := .append) (xs := #[.tmp 30, .tmp 31]) rfl ?_); at_builtin; refine BRow.R_append (w0 := w) w.heap.size rfl (.tmp 30) (.tmp 31) 63 5 (.int .u8 0) 1 rfl Try.underlying63 info5 rfl (by decide) (by omega) v126 y125 1 [.int .u8 1] (fun _ => True) (fun _ => False) rfl rfl ?aP (fun _ hk => hk.elim) ?aF ?aO ?aB ?aS ?aL ?_; (case aP => exact rfl); (case aB => exact (by repeat (first | (with_reducible first | exact HB.out | apply qA | apply qN | apply qD | refine below_set ?_ GE121.out) | exact HB.out))); (case aF => exact (fun _ _ => trivial)); (case aO => exact (by (with_reducible repeat (first | apply BRow.rA | apply BRow.rN | apply BRow.rD)); exact HO127.out)); (case aS => exact (below_size (by repeat (first | (with_reducible first | exact HB.out | apply qA | apply qN | apply qD | refine below_set ?_ GE121.out) | exact HB.out)))); (case aL => have := LMc17.out; omega); intro v129 w18 ho hb hg hat; rw [← Ny128.out] at ho; have n0_ := Aside0.mk (blk_grown (g := gb121) (o := .cells #[.int .u8 a0_0, .int .u8 a0_1, .int .u8 a0_2, .int .u32 a0_3, .int .u8 a0_4, .int .u8 a0_5, .bool true, .slice A0_7 l0_7.length c0_7, .slice A0_8 l0_8.length c0_8, .slice A0_9 l0_9.length c0_9, .slice A0_10 l0_10.length c0_10, .slice A0_11 l0_11.length c0_11] 29 (0, 0)) (by (with_reducible repeat (first | refine bN ?_ _ | refine bD ?_ | refine bA ?_ _)); exact BK121.out) hg (BRow.R_ne HO127.out BK121.out (by decide))); have n1_ := Aside0.mk (hb); have n2_ := Aside0.mk (ho); clear BK121; clear HB; clear HO127; have BK121 := n0_; have HB := n1_; have HO130 := n2_; clear n0_ n1_ n2_; clear ho hb hg hat))
   go_meet
   case rel => exact ⟨_, (y128), H', ⟨by first | omega | exact Nat.le_refl _⟩, ⟨by (with_reducible repeat (first | apply BRow.rA | apply BRow.rN | apply BRow.rD)); exact HO130.out⟩, ⟨by (with_reducible repeat (first | refine bN ?_ _ | refine bD ?_ | refine bA ?_ _)); exact BK121.out⟩, ⟨by repeat (first | (with_reducible first | exact HB.out | apply qA | apply qN | apply qD | refine below_set ?_ GE121.out) | exact HB.out)⟩⟩
  replace c16 := Bool.eq_false_iff.mpr c16
  subst c16
  have H1 : (if y125.length < 140737488355328 then (tattlerref22_Body.j0 k (y125 ++ [0]) a0_0 a0_1 a0_2 a0_3 a0_4 a0_5 false l0_7 l0_8 l0_9 l0_10 l0_11) else (none)) = some r := by rw [if_neg (show ¬ (false = true) by decide)] at H; exact H
  clear H
  have H := H1
  clear H1
  by_cases c19 : y125.length < 140737488355328
  rotate_left
  ·
   rw [if_neg c19] at H
   exact absurd H (by simp)
  rw [if_pos c19] at H
  have LMc19 := Aside0.mk c19
  clear c19
  obtain ⟨y131, hy131⟩ : ∃ y_ : List Int, y_ = (y125 ++ [0]) := ⟨_, rfl⟩
  replace H : (tattlerref22_Body.j0 k y131 a0_0 a0_1 a0_2 a0_3 a0_4 a0_5 false l0_7 l0_8 l0_9 l0_10 l0_11) = some r := by first | (rw [hy131]; with_reducible exact H) | (have H2_ := (Option.bind_some _ _).symm.trans H; rw [hy131]; with_reducible exact H2_) | (have H2_ := (Option.bind_some _ _).symm.trans H; with_reducible exact H2_) | with_reducible exact H | (rw [hy131]; exact H) | exact H
  have Ny131 := Aside0.mk hy131
  clear hy131
  have H' := Aside0.mk H
  clear H
  go_wp2_with (first | ((with_reducible refine gate_builtin (b := .append) (xs := #[.tmp 33, .tmp 34]) rfl ?_); at_builtin; refine BRow.R_append (w0 := w) w.heap.size rfl (.tmp 33) (.tmp 34) 63 5 (.int .u8 0) 1 rfl Try.underlying63 info5 rfl (by decide) (by omega) v126 y125 0 [.int .u8 0] (fun _ => True) (fun _ => False) rfl rfl ?aP (fun _ hk => hk.elim) ?aF ?aO ?aB ?aS ?aL ?_; (case aP => exact rfl); (case aB => exact (by repeat (first | (with_reducible first | exact HB.out | apply qA | apply qN | apply qD | refine below_set ?_ GE121.out) | exact HB.out))); (case aF => exact (fun _ _ => trivial)); (case aO => exact (by (with_reducible repeat (first | apply BRow.rA | apply BRow.rN | apply BRow.rD)); exact HO127.out)); (case aS => exact (below_size (by repeat (first | (with_reducible first | exact HB.out | apply qA | apply qN | apply qD | refine below_set ?_ GE121.out) | exact HB.out)))); (case aL => have := LMc19.out; omega); intro v132 w20 ho hb hg hat; rw [← Ny131.out] at ho; have n0_ := Aside0.mk (blk_grown (g := gb121) (o := .cells #[.int .u8 a0_0, .int .u8 a0_1, .int .u8 a0_2, .int .u32 a0_3, .int .u8 a0_4, .int .u8 a0_5, .bool false, .slice A0_7 l0_7.length c0_7, .slice A0_8 l0_8.length c0_8, .slice A0_9 l0_9.length c0_9, .slice A0_10 l0_10.length c0_10, .slice A0_11 l0_11.length c0_11] 29 (0, 0)) (by (with_reducible repeat (first | refine bN ?_ _ | refine bD ?_ | refine bA ?_ _)); exact BK121.out) hg (BRow.R_ne HO127.out BK121.out (by decide))); have n1_ := Aside0.mk (hb); have n2_ := Aside0.mk (ho); clear BK121; clear HB; clear HO127; have BK121 := n0_; have HB := n1_; have HO133 := n2_; clear n0_ n1_ n2_; clear ho hb hg hat))
  go_meet
  case rel => exact ⟨_, (y131), H', ⟨by first | omega | exact Nat.le_refl _⟩, ⟨by (with_reducible repeat (first | apply BRow.rA | apply BRow.rN | apply BRow.rD)); exact HO133.out⟩, ⟨by (with_reducible repeat (first | refine bN ?_ _ | refine bD ?_ | refine bA ?_ _)); exact BK121.out⟩, ⟨by repeat (first | (with_reducible first | exact HB.out | apply qA | apply qN | apply qD | refine below_set ?_ GE121.out) | exact HB.out)⟩⟩
 case rest =>
  clear HC8
  try clear c1
  try clear c2
  try clear p2
  try clear c4
  try clear c4b0
  try clear c4b1
  try clear c4b2
  try clear c6
  try clear c6b0
  try clear c6b1
  try clear c6b2
  try clear c7
  try clear c16
  try clear c17
  try clear c19
  try clear hcz15_0
  try clear hcz15_1
  try clear hcz15_10
  try clear hcz15_11
  try clear hcz15_2
  try clear hcz15_3
  try clear hcz15_4
  try clear hcz15_5
  try clear hcz15_6
  try clear hcz15_7
  try clear hcz15_8
  try clear hcz15_9
  try clear hfz15_0
  try clear hfz15_1
  try clear hfz15_10
  try clear hfz15_11
  try clear hfz15_2
  try clear hfz15_3
  try clear hfz15_4
  try clear hfz15_5
  try clear hfz15_6
  try clear hfz15_7
  try clear hfz15_8
  try clear hfz15_9
  obtain ⟨kq, x3_7, HA, HJ7, HO_3, BK121, HB⟩ := hcut
  cases kq with
  | zero => exact absurd HA.out (by simp [tattlerref22_Body.j0])
  | succ kj7 =>
   have H := HA.out
   clear HA
   simp only [tattlerref22_Body.j0] at H
   replace H := Option.bind_eq_some_iff.mp H
   obtain ⟨t134, A210, H⟩ := H
   replace H : (if x3_7.length + t134.size < 140737488355328 then (tattlerref22_Body.l0 kj7 (x3_7 ++ bytesOf t134) (l0_7.length : Int) 0 a0_0 a0_1 a0_2 a0_3 a0_4 a0_5 a0_6 l0_7 l0_8 l0_9 l0_10 l0_11) else (none)) = some r := H
   have A21 := Aside0.mk A210
   clear A210
   by_cases c22 : x3_7.length + t134.size < 140737488355328
   rotate_left
   ·
    rw [if_neg c22] at H
    exact absurd H (by simp)
   rw [if_pos c22] at H
   have LMc22 := Aside0.mk c22
   clear c22
   obtain ⟨y135, hy135⟩ : ∃ y_ : List Int, y_ = (x3_7 ++ bytesOf t134) := ⟨_, rfl⟩
   replace H : (tattlerref22_Body.l0 kj7 y135 (l0_7.length : Int) 0 a0_0 a0_1 a0_2 a0_3 a0_4 a0_5 a0_6 l0_7 l0_8 l0_9 l0_10 l0_11) = some r := by first | (rw [hy135]; with_reducible exact H) | (have H2_ := (Option.bind_some _ _).symm.trans H; rw [hy135]; with_reducible exact H2_) | (have H2_ := (Option.bind_some _ _).symm.trans H; with_reducible exact H2_) | with_reducible exact H | (rw [hy135]; exact H) | exact H
   have Ny135 := Aside0.mk hy135
   clear hy135
   have H' := Aside0.mk H
   clear H
   have hcz23_0 : wc.cell? ⟨gb121, 0, none⟩ = some (.int .u8 a0_0) := (blk_cell BK121.out 0).trans rfl
   have hcz23_1 : wc.cell? ⟨gb121, 1, none⟩ = some (.int .u8 a0_1) := (blk_cell BK121.out 1).trans rfl
   have hcz23_2 : wc.cell? ⟨gb121, 2, none⟩ = some (.int .u8 a0_2) := (blk_cell BK121.out 2).trans rfl
   have hcz23_3 : wc.cell? ⟨gb121, 3, none⟩ = some (.int .u32 a0_3) := (blk_cell BK121.out 3).trans rfl
   have hcz23_4 : wc.cell? ⟨gb121, 4, none⟩ = some (.int .u8 a0_4) := (blk_cell BK121.out 4).trans rfl
   have hcz23_5 : wc.cell? ⟨gb121, 5, none⟩ = some (.int .u8 a0_5) := (blk_cell BK121.out 5).trans rfl
   have hcz23_6 : wc.cell? ⟨gb121, 6, none⟩ = some (.bool a0_6) := (blk_cell BK121.out 6).trans rfl
   have hcz23_7 : wc.cell? ⟨gb121, 7, none⟩ = some (.slice A0_7 l0_7.length c0_7) := (blk_cell BK121.out 7).trans rfl
   have hcz23_8 : wc.cell? ⟨gb121, 8, none⟩ = some (.slice A0_8 l0_8.length c0_8) := (blk_cell BK121.out 8).trans rfl
   have hcz23_9 : wc.cell? ⟨gb121, 9, none⟩ = some (.slice A0_9 l0_9.length c0_9) := (blk_cell BK121.out 9).trans rfl
   have hcz23_10 : wc.cell? ⟨gb121, 10, none⟩ = some (.slice A0_10 l0_10.length c0_10) := (blk_cell BK121.out 10).trans rfl
   have hcz23_11 : wc.cell? ⟨gb121, 11, none⟩ = some (.slice A0_11 l0_11.length c0_11) := (blk_cell BK121.out 11).trans rfl
   have hfz23_0 := blk_frozen BK121.out 0
   have hfz23_1 := blk_frozen BK121.out 1
   have hfz23_2 := blk_frozen BK121.out 2
   have hfz23_3 := blk_frozen BK121.out 3
   have hfz23_4 := blk_frozen BK121.out 4
   have hfz23_5 := blk_frozen BK121.out 5
   have hfz23_6 := blk_frozen BK121.out 6
   have hfz23_7 := blk_frozen BK121.out 7
   have hfz23_8 := blk_frozen BK121.out 8
   have hfz23_9 := blk_frozen BK121.out 9
   have hfz23_10 := blk_frozen BK121.out 10
   have hfz23_11 := blk_frozen BK121.out 11
   go_wp2_with (first | ((with_reducible refine gate_callee (f := 69) rfl ?_); refine goesL_ (some 41) rfl rfl Try.func69 (by kernel_rfl) rfl #[.int .u64 (IntKind.u64.wrap ((l0_7.length : Int)))] rfl (by (try simp only [List.map_toArray, List.map_cons, List.map_nil]); first | done | rfl | (simp only [List.length_drop, List.length_take]; rfl)) ?_; (with_reducible refine (tattlerref22_put.calls (IntKind.u64.wrap ((l0_7.length : Int))) t134 _ A21.out).mono ?_); rintro e w24 ⟨rfl, hb⟩; refine ⟨_, rfl, ?_⟩; have n0_ := Aside0.mk (BRow.R_below (by (with_reducible repeat (first | apply BRow.rA | apply BRow.rN | apply BRow.rD)); exact HO_3.out) hb); have n1_ := Aside0.mk (blk_below (g := gb121) (o := .cells #[.int .u8 a0_0, .int .u8 a0_1, .int .u8 a0_2, .int .u32 a0_3, .int .u8 a0_4, .int .u8 a0_5, .bool a0_6, .slice A0_7 l0_7.length c0_7, .slice A0_8 l0_8.length c0_8, .slice A0_9 l0_9.length c0_9, .slice A0_10 l0_10.length c0_10, .slice A0_11 l0_11.length c0_11] 29 (0, 0)) (by (with_reducible repeat (first | refine bN ?_ _ | refine bD ?_ | refine bA ?_ _)); exact BK121.out) hb); have n2_ := Aside0.mk (below_step (by repeat (first | (with_reducible first | exact HB.out | apply qA | apply qN | apply qD | refine below_set ?_ GE121.out) | exact HB.out)) hb); clear HO_3; clear BK121; clear HB; have HO_3 := n0_; have BK121 := n1_; have HB := n2_; clear n0_ n1_ n2_; (try clear hb); (try clear hb2); (try clear hk); (try clear hi)) | (at_builtin; refine BRow.append_str (w0 := w) w.heap.size rfl (.tmp 36) _ 63 9 5 rfl Try.underlying63 Try.underlying9 info5 u3 x3_7 t134 rfl rfl ?aO ?aB ?aS ?aL ?_; (case aB => exact (by repeat (first | (with_reducible first | exact HB.out | apply qA | apply qN | apply qD | refine below_set ?_ GE121.out) | exact HB.out))); (case aO => exact (BRow.own_of_R (by (with_reducible repeat (first | apply BRow.rA | apply BRow.rN | apply BRow.rD)); exact HO_3.out))); (case aS => exact (below_size (by repeat (first | (with_reducible first | exact HB.out | apply qA | apply qN | apply qD | refine below_set ?_ GE121.out) | exact HB.out)))); (case aL => have := LMc22.out; omega); intro v136 w25 ho0 hb hg; have ho := BRow.R_of_own (ok := fun _ => True) ho0 (fun _ _ => trivial); clear ho0; have hat := True.intro; rw [← Ny135.out] at ho; change BRow.R 5 w25 w.heap.size (fun _ => True) v136 y135 at ho; have n0_ := Aside0.mk (blk_grown (g := gb121) (o := .cells #[.int .u8 a0_0, .int .u8 a0_1, .int .u8 a0_2, .int .u32 a0_3, .int .u8 a0_4, .int .u8 a0_5, .bool a0_6, .slice A0_7 l0_7.length c0_7, .slice A0_8 l0_8.length c0_8, .slice A0_9 l0_9.length c0_9, .slice A0_10 l0_10.length c0_10, .slice A0_11 l0_11.length c0_11] 29 (0, 0)) (by (with_reducible repeat (first | refine bN ?_ _ | refine bD ?_ | refine bA ?_ _)); exact BK121.out) hg (BRow.R_ne HO_3.out BK121.out (by decide))); have n1_ := Aside0.mk (hb); have n2_ := Aside0.mk (ho); clear BK121; clear HB; clear HO_3; have BK121 := n0_; have HB := n1_; have HO137 := n2_; clear n0_ n1_ n2_; clear ho hb hg hat; have hcz26_0 : w25.cell? ⟨gb121, 0, none⟩ = some (.int .u8 a0_0) := (blk_cell BK121.out 0).trans rfl; have hcz26_1 : w25.cell? ⟨gb121, 1, none⟩ = some (.int .u8 a0_1) := (blk_cell BK121.out 1).trans rfl; have hcz26_2 : w25.cell? ⟨gb121, 2, none⟩ = some (.int .u8 a0_2) := (blk_cell BK121.out 2).trans rfl; have hcz26_3 : w25.cell? ⟨gb121, 3, none⟩ = some (.int .u32 a0_3) := (blk_cell BK121.out 3).trans rfl; have hcz26_4 : w25.cell? ⟨gb121, 4, none⟩ = some (.int .u8 a0_4) := (blk_cell BK121.out 4).trans rfl; have hcz26_5 : w25.cell? ⟨gb121, 5, none⟩ = some (.int .u8 a0_5) := (blk_cell BK121.out 5).trans rfl; have hcz26_6 : w25.cell? ⟨gb121, 6, none⟩ = some (.bool a0_6) := (blk_cell BK121.out 6).trans rfl; have hcz26_7 : w25.cell? ⟨gb121, 7, none⟩ = some (.slice A0_7 l0_7.length c0_7) := (blk_cell BK121.out 7).trans rfl; have hcz26_8 : w25.cell? ⟨gb121, 8, none⟩ = some (.slice A0_8 l0_8.length c0_8) := (blk_cell BK121.out 8).trans rfl; have hcz26_9 : w25.cell? ⟨gb121, 9, none⟩ = some (.slice A0_9 l0_9.length c0_9) := (blk_cell BK121.out 9).trans rfl; have hcz26_10 : w25.cell? ⟨gb121, 10, none⟩ = some (.slice A0_10 l0_10.length c0_10) := (blk_cell BK121.out 10).trans rfl; have hcz26_11 : w25.cell? ⟨gb121, 11, none⟩ = some (.slice A0_11 l0_11.length c0_11) := (blk_cell BK121.out 11).trans rfl; have hfz26_0 := blk_frozen BK121.out 0; have hfz26_1 := blk_frozen BK121.out 1; have hfz26_2 := blk_frozen BK121.out 2; have hfz26_3 := blk_frozen BK121.out 3; have hfz26_4 := blk_frozen BK121.out 4; have hfz26_5 := blk_frozen BK121.out 5; have hfz26_6 := blk_frozen BK121.out 6; have hfz26_7 := blk_frozen BK121.out 7; have hfz26_8 := blk_frozen BK121.out 8; have hfz26_9 := blk_frozen BK121.out 9; have hfz26_10 := blk_frozen BK121.out 10; have hfz26_11 := blk_frozen BK121.out 11))
   go_loopg [3, 46] kj7 (fun kq v3 v46 w' => ∃ (x3_2 : List Int) (x46_2 : Int), v46 = .int .i64 x46_2 ∧ Aside0 (tattlerref22_Body.l0 kq x3_2 (l0_7.length : Int) x46_2 a0_0 a0_1 a0_2 a0_3 a0_4 a0_5 a0_6 l0_7 l0_8 l0_9 l0_10 l0_11 = some r) ∧ Aside0 (kq ≤ kj7) ∧ Aside0 (BRow.R 5 w' w.heap.size (fun _ => True) v3 x3_2) ∧ Aside0 (w'.heap[gb121]? = some (.cells #[.int .u8 a0_0, .int .u8 a0_1, .int .u8 a0_2, .int .u32 a0_3, .int .u8 a0_4, .int .u8 a0_5, .bool a0_6, (.slice A0_7 l0_7.length c0_7), (.slice A0_8 l0_8.length c0_8), (.slice A0_9 l0_9.length c0_9), (.slice A0_10 l0_10.length c0_10), (.slice A0_11 l0_11.length c0_11)] 29 (0, 0))) ∧ Aside0 (Below w.heap.size w w'))
   case atStart => exact ⟨(y135), (0), (by first | rfl | (simp; done) | (simp [*]; done)), H', ⟨Nat.le_refl _⟩, ⟨by (with_reducible repeat (first | apply BRow.rA | apply BRow.rN | apply BRow.rD)); exact HO137.out⟩, ⟨by (with_reducible repeat (first | refine bN ?_ _ | refine bD ?_ | refine bA ?_ _)); exact BK121.out⟩, ⟨by repeat (first | (with_reducible first | exact HB.out | apply qA | apply qN | apply qD | refine below_set ?_ GE121.out) | exact HB.out)⟩⟩
   case round =>
    clear H'
    try clear c1
    try clear c2
    try clear p2
    try clear c4
    try clear c4b0
    try clear c4b1
    try clear c4b2
    try clear c6
    try clear c6b0
    try clear c6b1
    try clear c6b2
    try clear c7
    try clear c16
    try clear c17
    try clear c19
    try clear c22
    try clear c26
    try clear hcz15_0
    try clear hcz15_1
    try clear hcz15_10
    try clear hcz15_11
    try clear hcz15_2
    try clear hcz15_3
    try clear hcz15_4
    try clear hcz15_5
    try clear hcz15_6
    try clear hcz15_7
    try clear hcz15_8
    try clear hcz15_9
    try clear hcz23_0
    try clear hcz23_1
    try clear hcz23_10
    try clear hcz23_11
    try clear hcz23_2
    try clear hcz23_3
    try clear hcz23_4
    try clear hcz23_5
    try clear hcz23_6
    try clear hcz23_7
    try clear hcz23_8
    try clear hcz23_9
    try clear hcz26_0
    try clear hcz26_1
    try clear hcz26_10
    try clear hcz26_11
    try clear hcz26_2
    try clear hcz26_3
    try clear hcz26_4
    try clear hcz26_5
    try clear hcz26_6
    try clear hcz26_7
    try clear hcz26_8
    try clear hcz26_9
    try clear hfz15_0
    try clear hfz15_1
    try clear hfz15_10
    try clear hfz15_11
    try clear hfz15_2
    try clear hfz15_3
    try clear hfz15_4
    try clear hfz15_5
    try clear hfz15_6
    try clear hfz15_7
    try clear hfz15_8
    try clear hfz15_9
    try clear hfz23_0
    try clear hfz23_1
    try clear hfz23_10
    try clear hfz23_11
    try clear hfz23_2
    try clear hfz23_3
    try clear hfz23_4
    try clear hfz23_5
    try clear hfz23_6
    try clear hfz23_7
    try clear hfz23_8
    try clear hfz23_9
    try clear hfz26_0
    try clear hfz26_1
    try clear hfz26_10
    try clear hfz26_11
    try clear hfz26_2
    try clear hfz26_3
    try clear hfz26_4
    try clear hfz26_5
    try clear hfz26_6
    try clear hfz26_7
    try clear hfz26_8
    try clear hfz26_9
    try clear p2
    obtain ⟨x3_2, x46_2, rfl, HA, HK2, HO_3, BK121, HB⟩ := hrel
    cases gk with
    | zero => exact absurd HA.out (by simp [tattlerref22_Body.l0])
    | succ k2 =>
     have H := HA.out
     clear HA
     simp only [tattlerref22_Body.l0] at H
     by_cases c27 : x46_2 < (l0_7.length : Int)
     ·
      rw [if_pos c27] at H
      have c27b0 : decide (x46_2 < (l0_7.length : Int)) = true := decide_eq_true c27
      clear c27
      by_cases c28 : 0 ≤ x46_2
      rotate_left
      ·
       rw [if_neg c28] at H
       exact absurd H (by simp)
      rw [if_pos c28] at H
      have c28b0 : decide (0 ≤ x46_2) = true := decide_eq_true c28
      clear c28
      by_cases c29 : x46_2 < (l0_7.length : Int)
      rotate_left
      ·
       rw [if_neg c29] at H
       exact absurd H (by simp)
      rw [if_pos c29] at H
      have c29b0 : decide (x46_2 < (l0_7.length : Int)) = true := decide_eq_true c29
      clear c29
      replace H := Option.bind_eq_some_iff.mp H
      obtain ⟨t140, A300, H⟩ := H
      replace H : ((tattlerref22_put.f (IntKind.u64.wrap ((rd_T72 l0_7 x46_2).f1.f0))).bind fun t141 => (if t140.size + t141.size ≤ 9223372036854775807 then ((tattlerref22_put.f (IntKind.u64.wrap ((rd_T72 l0_7 x46_2).f1.f1))).bind fun t142 => (if (t140 ++ t141).size + t142.size ≤ 9223372036854775807 then (if x3_2.length + ((t140 ++ t141) ++ t142).size < 140737488355328 then (tattlerref22_Body.l0 k2 (x3_2 ++ bytesOf ((t140 ++ t141) ++ t142)) (l0_7.length : Int) (wrap64 (x46_2 + 1)) a0_0 a0_1 a0_2 a0_3 a0_4 a0_5 a0_6 l0_7 l0_8 l0_9 l0_10 l0_11) else (none)) else (none))) else (none))) = some r := H
      have A30 := Aside0.mk A300
      clear A300
      replace H := Option.bind_eq_some_iff.mp H
      obtain ⟨t141, A310, H⟩ := H
      replace H : (if t140.size + t141.size ≤ 9223372036854775807 then ((tattlerref22_put.f (IntKind.u64.wrap ((rd_T72 l0_7 x46_2).f1.f1))).bind fun t142 => (if (t140 ++ t141).size + t142.size ≤ 9223372036854775807 then (if x3_2.length + ((t140 ++ t141) ++ t142).size < 140737488355328 then (tattlerref22_Body.l0 k2 (x3_2 ++ bytesOf ((t140 ++ t141) ++ t142)) (l0_7.length : Int) (wrap64 (x46_2 + 1)) a0_0 a0_1 a0_2 a0_3 a0_4 a0_5 a0_6 l0_7 l0_8 l0_9 l0_10 l0_11) else (none)) else (none))) else (none)) = some r := H
      have A31 := Aside0.mk A310
      clear A310
      by_cases c32 : t140.size + t141.size ≤ 9223372036854775807
      rotate_left
      ·
       rw [if_neg c32] at H
       exact absurd H (by simp)
      rw [if_pos c32] at H
      have c32b0 := eq_true c32
      have c32b1 : decide (t140.size + t141.size ≤ 9223372036854775807) = true := decide_eq_true c32
      try have c32b2 : (9223372036854775807 < t140.size + t141.size) = False := eq_false (Nat.not_lt.2 c32)
      replace H := Option.bind_eq_some_iff.mp H
      obtain ⟨t142, A330, H⟩ := H
      replace H : (if (t140 ++ t141).size + t142.size ≤ 9223372036854775807 then (if x3_2.length + ((t140 ++ t141) ++ t142).size < 140737488355328 then (tattlerref22_Body.l0 k2 (x3_2 ++ bytesOf ((t140 ++ t141) ++ t142)) (l0_7.length : Int) (wrap64 (x46_2 + 1)) a0_0 a0_1 a0_2 a0_3 a0_4 a0_5 a0_6 l0_7 l0_8 l0_9 l0_10 l0_11) else (none)) else (none)) = some r := H
      have A33 := Aside0.mk A330
      clear A330
      by_cases c34 : (t140 ++ t141).size + t142.size ≤ 9223372036854775807
      rotate_left
      ·
       rw [if_neg c34] at H
       exact absurd H (by simp)
      rw [if_pos c34] at H
      have c34b0 := eq_true c34
      have c34b1 : decide ((t140 ++ t141).size + t142.size ≤ 9223372036854775807) = true := decide_eq_true c34
      try have c34b2 : (9223372036854775807 < (t140 ++ t141).size + t142.size) = False := eq_false (Nat.not_lt.2 c34)
      try (have c34b3 := c34b2; simp only [ByteArray.size_append] at c34b3)
      by_cases c35 : x3_2.length + ((t140 ++ t141) ++ t142).size < 140737488355328
      rotate_left
      ·
       rw [if_neg c35] at H
       exact absurd H (by simp)
      rw [if_pos c35] at H
      have LMc35 := Aside0.mk c35
      clear c35
      obtain ⟨y143, hy143⟩ : ∃ y_ : List Int, y_ = (x3_2 ++ bytesOf ((t140 ++ t141) ++ t142)) := ⟨_, rfl⟩
      replace H : (tattlerref22_Body.l0 k2 y143 (l0_7.length : Int) (wrap64 (x46_2 + 1)) a0_0 a0_1 a0_2 a0_3 a0_4 a0_5 a0_6 l0_7 l0_8 l0_9 l0_10 l0_11) = some r := by first | (rw [hy143]; with_reducible exact H) | (have H2_ := (Option.bind_some _ _).symm.trans H; rw [hy143]; with_reducible exact H2_) | (have H2_ := (Option.bind_some _ _).symm.trans H; with_reducible exact H2_) | with_reducible exact H | (rw [hy143]; exact H) | exact H
      have Ny143 := Aside0.mk hy143
      clear hy143
      have H' := Aside0.mk H
      clear H
      have hcz36_0 : wr.cell? ⟨gb121, 0, none⟩ = some (.int .u8 a0_0) := (blk_cell BK121.out 0).trans rfl
      have hcz36_1 : wr.cell? ⟨gb121, 1, none⟩ = some (.int .u8 a0_1) := (blk_cell BK121.out 1).trans rfl
      have hcz36_2 : wr.cell? ⟨gb121, 2, none⟩ = some (.int .u8 a0_2) := (blk_cell BK121.out 2).trans rfl
      have hcz36_3 : wr.cell? ⟨gb121, 3, none⟩ = some (.int .u32 a0_3) := (blk_cell BK121.out 3).trans rfl
      have hcz36_4 : wr.cell? ⟨gb121, 4, none⟩ = some (.int .u8 a0_4) := (blk_cell BK121.out 4).trans rfl
      have hcz36_5 : wr.cell? ⟨gb121, 5, none⟩ = some (.int .u8 a0_5) := (blk_cell BK121.out 5).trans rfl
      have hcz36_6 : wr.cell? ⟨gb121, 6, none⟩ = some (.bool a0_6) := (blk_cell BK121.out 6).trans rfl
      have hcz36_7 : wr.cell? ⟨gb121, 7, none⟩ = some (.slice A0_7 l0_7.length c0_7) := (blk_cell BK121.out 7).trans rfl
      have hcz36_8 : wr.cell? ⟨gb121, 8, none⟩ = some (.slice A0_8 l0_8.length c0_8) := (blk_cell BK121.out 8).trans rfl
      have hcz36_9 : wr.cell? ⟨gb121, 9, none⟩ = some (.slice A0_9 l0_9.length c0_9) := (blk_cell BK121.out 9).trans rfl
      have hcz36_10 : wr.cell? ⟨gb121, 10, none⟩ = some (.slice A0_10 l0_10.length c0_10) := (blk_cell BK121.out 10).trans rfl
      have hcz36_11 : wr.cell? ⟨gb121, 11, none⟩ = some (.slice A0_11 l0_11.length c0_11) := (blk_cell BK121.out 11).trans rfl
      have hfz36_0 := blk_frozen BK121.out 0
      have hfz36_1 := blk_frozen BK121.out 1
      have hfz36_2 := blk_frozen BK121.out 2
      have hfz36_3 := blk_frozen BK121.out 3
      have hfz36_4 := blk_frozen BK121.out 4
      have hfz36_5 := blk_frozen BK121.out 5
      have hfz36_6 := blk_frozen BK121.out 6
      have hfz36_7 := blk_frozen BK121.out 7
      have hfz36_8 := blk_frozen BK121.out 8
      have hfz36_9 := blk_frozen BK121.out 9
      have hfz36_10 := blk_frozen BK121.out 10
      have hfz36_11 := blk_frozen BK121.out 11
      have p138 : 0 ≤ (x46_2 : Int) := of_decide_eq_true (by first | (with_reducible assumption) | assumption)
      have q138 : x46_2 < (l0_7.length : Int) := of_decide_eq_true (by first | (with_reducible assumption) | assumption)
      obtain ⟨ad138, e138, hx138_0, hx138_1, hx138_2⟩ := at_T72 HR0_7.out x46_2 p138 q138
      cases e138
      replace hx138_0 := (HB.out.cell (World.block_lt_of_cell? w _ hx138_0)).trans hx138_0
      replace hx138_1 := (HB.out.cell (World.block_lt_of_cell? w _ hx138_1)).trans hx138_1
      replace hx138_2 := (HB.out.cell (World.block_lt_of_cell? w _ hx138_2)).trans hx138_2
      replace p138 := eq_true p138
      replace q138 := eq_true q138
      try go_wp2_with (first | ((with_reducible refine gate_dst (N := 5) rfl ?_); refine box_event ?hg (N := 5) ?hd (cs := #[.int .u8 0, .int .u8 0, .int .u32 0]) (t := 72) ?hr ?_; (case hd => rfl); (case hg => rfl); (case hr => first | (go_simp; done) | (go_simp; rfl)); intro gb139 hg w37 hbox hb; have n0_ := Aside0.mk (BRow.R_below (by (with_reducible repeat (first | apply BRow.rA | apply BRow.rN | apply BRow.rD)); exact HO_3.out) hb); have n1_ := Aside0.mk (blk_below (g := gb121) (o := .cells #[.int .u8 a0_0, .int .u8 a0_1, .int .u8 a0_2, .int .u32 a0_3, .int .u8 a0_4, .int .u8 a0_5, .bool a0_6, .slice (some ad138) l0_7.length c0_7, .slice A0_8 l0_8.length c0_8, .slice A0_9 l0_9.length c0_9, .slice A0_10 l0_10.length c0_10, .slice A0_11 l0_11.length c0_11] 29 (0, 0)) (by (with_reducible repeat (first | refine bN ?_ _ | refine bD ?_ | refine bA ?_ _)); exact BK121.out) hb); have n2_ := Aside0.mk (below_step (by repeat (first | (with_reducible first | exact HB.out | apply qA | apply qN | apply qD | refine below_set ?_ GE121.out) | exact HB.out)) hb); have n3_ := Aside0.mk (hbox); have n4_ := Aside0.mk ((by rw [hg]; exact (below_size (by repeat (first | (with_reducible first | exact HB.out | apply qA | apply qN | apply qD | refine below_set ?_ GE121.out) | exact HB.out))) : w.heap.size ≤ gb139)); have n5_ := Aside0.mk ((by rw [hg]; exact (below_size (by repeat (first | (with_reducible first | exact HB.out | apply qA | apply qN | apply qD | refine below_set ?_ GE121.out) | exact HB.out))) : w.heap.size ≤ gb139)); have n6_ := Aside0.mk ((by rw [hg]; exact Nat.ne_of_lt (blk_lt (g := gb121) (o := .cells #[.int .u8 a0_0, .int .u8 a0_1, .int .u8 a0_2, .int .u32 a0_3, .int .u8 a0_4, .int .u8 a0_5, .bool a0_6, .slice (some ad138) l0_7.length c0_7, .slice A0_8 l0_8.length c0_8, .slice A0_9 l0_9.length c0_9, .slice A0_10 l0_10.length c0_10, .slice A0_11 l0_11.length c0_11] 29 (0, 0)) (by (with_reducible repeat (first | refine bN ?_ _ | refine bD ?_ | refine bA ?_ _)); exact BK121.out)) : gb121 ≠ gb139)); have n7_ := Aside0.mk ((by rw [hg]; exact Nat.ne_of_gt (blk_lt (g := gb121) (o := .cells #[.int .u8 a0_0, .int .u8 a0_1, .int .u8 a0_2, .int .u32 a0_3, .int .u8 a0_4, .int .u8 a0_5, .bool a0_6, .slice (some ad138) l0_7.length c0_7, .slice A0_8 l0_8.length c0_8, .slice A0_9 l0_9.length c0_9, .slice A0_10 l0_10.length c0_10, .slice A0_11 l0_11.length c0_11] 29 (0, 0)) (by (with_reducible repeat (first | refine bN ?_ _ | refine bD ?_ | refine bA ?_ _)); exact BK121.out)) : gb139 ≠ gb121)); clear HO_3; clear BK121; clear HB; have HO_3 := n0_; have BK121 := n1_; have HB := n2_; have BK139 := n3_; have GW139 := n4_; have GE139 := n5_; have NB121_139 := n6_; have NB139_121 := n7_; clear n0_ n1_ n2_ n3_ n4_ n5_ n6_ n7_; clear hb hbox hg; have hnb38 := NB139_121.out; have hnc38 := NB121_139.out; have hcz39_0 : w37.cell? ⟨gb139, 0, none⟩ = some (.int .u8 0) := (blk_cell BK139.out 0).trans rfl; have hcz39_1 : w37.cell? ⟨gb139, 1, none⟩ = some (.int .u8 0) := (blk_cell BK139.out 1).trans rfl; have hcz39_2 : w37.cell? ⟨gb139, 2, none⟩ = some (.int .u32 0) := (blk_cell BK139.out 2).trans rfl; have hfz39_0 := blk_frozen BK139.out 0; have hfz39_1 := blk_frozen BK139.out 1; have hfz39_2 := blk_frozen BK139.out 2))
      have n0_ : Aside0 (BRow.R 5 (((w37.setCell ⟨gb139, 0, none⟩ (.int .u8 ((rd_T72 l0_7 x46_2).f0))).setCell ⟨gb139, 1, none⟩ (.int .u8 ((rd_T72 l0_7 x46_2).f1.f0))).setCell ⟨gb139, 2, none⟩ (.int .u32 ((rd_T72 l0_7 x46_2).f1.f1))) w.heap.size (fun _ => True) u3 x3_2) := ⟨by (with_reducible repeat (first | apply BRow.rA | apply BRow.rN | apply BRow.rD)); exact BRow.R_mono (BRow.R_far (p := ⟨gb139, 2, none⟩) (BRow.R_far (p := ⟨gb139, 1, none⟩) (BRow.R_far (p := ⟨gb139, 0, none⟩) (BRow.R_types HO_3.out BK139.out (by decide)) (fun _ hk => hk.2) (.int .u8 ((rd_T72 l0_7 x46_2).f0))) (fun _ hk => hk.2) (.int .u8 ((rd_T72 l0_7 x46_2).f1.f0))) (fun _ hk => hk.2) (.int .u32 ((rd_T72 l0_7 x46_2).f1.f1))) (fun _ hk => trivial)⟩
      have n1_ : Aside0 ((((w37.setCell ⟨gb139, 0, none⟩ (.int .u8 ((rd_T72 l0_7 x46_2).f0))).setCell ⟨gb139, 1, none⟩ (.int .u8 ((rd_T72 l0_7 x46_2).f1.f0))).setCell ⟨gb139, 2, none⟩ (.int .u32 ((rd_T72 l0_7 x46_2).f1.f1))).heap[gb121]? = some (.cells #[.int .u8 a0_0, .int .u8 a0_1, .int .u8 a0_2, .int .u32 a0_3, .int .u8 a0_4, .int .u8 a0_5, .bool a0_6, .slice (some ad138) l0_7.length c0_7, .slice A0_8 l0_8.length c0_8, .slice A0_9 l0_9.length c0_9, .slice A0_10 l0_10.length c0_10, .slice A0_11 l0_11.length c0_11] 29 (0, 0))) := ⟨by (with_reducible repeat (first | refine bN ?_ _ | refine bD ?_ | refine bA ?_ _)); refine blk_far ?_ NB121_139.out _; (with_reducible repeat (first | refine bN ?_ _ | refine bD ?_ | refine bA ?_ _)); refine blk_far ?_ NB121_139.out _; (with_reducible repeat (first | refine bN ?_ _ | refine bD ?_ | refine bA ?_ _)); refine blk_far ?_ NB121_139.out _; (with_reducible repeat (first | refine bN ?_ _ | refine bD ?_ | refine bA ?_ _)); exact BK121.out⟩
      have n2_ : Aside0 ((((w37.setCell ⟨gb139, 0, none⟩ (.int .u8 ((rd_T72 l0_7 x46_2).f0))).setCell ⟨gb139, 1, none⟩ (.int .u8 ((rd_T72 l0_7 x46_2).f1.f0))).setCell ⟨gb139, 2, none⟩ (.int .u32 ((rd_T72 l0_7 x46_2).f1.f1))).heap[gb139]? = some (.cells #[.int .u8 ((rd_T72 l0_7 x46_2).f0), .int .u8 ((rd_T72 l0_7 x46_2).f1.f0), .int .u32 ((rd_T72 l0_7 x46_2).f1.f1)] 72 (0, 0))) := ⟨by (with_reducible repeat (first | refine bN ?_ _ | refine bD ?_ | refine bA ?_ _)); refine blk_put (cs := #[.int .u8 ((rd_T72 l0_7 x46_2).f0), .int .u8 ((rd_T72 l0_7 x46_2).f1.f0), .int .u32 0]) ?_ 2 _ rfl; (with_reducible repeat (first | refine bN ?_ _ | refine bD ?_ | refine bA ?_ _)); refine blk_put (cs := #[.int .u8 ((rd_T72 l0_7 x46_2).f0), .int .u8 0, .int .u32 0]) ?_ 1 _ rfl; (with_reducible repeat (first | refine bN ?_ _ | refine bD ?_ | refine bA ?_ _)); refine blk_put (cs := #[.int .u8 0, .int .u8 0, .int .u32 0]) ?_ 0 _ rfl; (with_reducible repeat (first | refine bN ?_ _ | refine bD ?_ | refine bA ?_ _)); exact BK139.out⟩
      have n3_ : Aside0 (Below w.heap.size w (((w37.setCell ⟨gb139, 0, none⟩ (.int .u8 ((rd_T72 l0_7 x46_2).f0))).setCell ⟨gb139, 1, none⟩ (.int .u8 ((rd_T72 l0_7 x46_2).f1.f0))).setCell ⟨gb139, 2, none⟩ (.int .u32 ((rd_T72 l0_7 x46_2).f1.f1)))) := ⟨by repeat (first | (with_reducible first | exact HB.out | apply qA | apply qN | apply qD | refine below_set ?_ GE121.out | refine below_set ?_ GE139.out) | exact HB.out)⟩
      (try clear HO_3)
      (try clear BK121)
      (try clear BK139)
      (try clear HB)
      generalize (((w37.setCell ⟨gb139, 0, none⟩ (.int .u8 ((rd_T72 l0_7 x46_2).f0))).setCell ⟨gb139, 1, none⟩ (.int .u8 ((rd_T72 l0_7 x46_2).f1.f0))).setCell ⟨gb139, 2, none⟩ (.int .u32 ((rd_T72 l0_7 x46_2).f1.f1))) = w40 at n0_ n1_ n2_ n3_ ⊢
      have HO_3 := n0_
      have BK121 := n1_
      have BK139 := n2_
      have HB := n3_
      clear n0_ n1_ n2_ n3_
      have n0_ := Aside0.mk (BRow.R_drew HO_3.out)
      have n1_ := Aside0.mk (blk_drew BK121.out)
      have n2_ := Aside0.mk (blk_drew BK139.out)
      have n3_ := Aside0.mk (below_drew1 HB.out)
      clear HO_3
      clear BK121
      clear BK139
      clear HB
      have HO_3 := n0_
      have BK121 := n1_
      have BK139 := n2_
      have HB := n3_
      clear n0_ n1_ n2_ n3_
      refine start_ (n := 19) (S := fun w' => w'.cell? ⟨gb139, 0, none⟩ = some (.int .u8 ((rd_T72 l0_7 x46_2).f0)) ∧ w'.cell? ⟨gb139, 1, none⟩ = some (.int .u8 ((rd_T72 l0_7 x46_2).f1.f0)) ∧ w'.cell? ⟨gb139, 2, none⟩ = some (.int .u32 ((rd_T72 l0_7 x46_2).f1.f1))) (ds := []) #[false, false, false, false, false, false, false, false, false, false, false, false, false, false, false, false, false, false, false] (by kernel_rfl) rfl rfl ⟨(blk_cell BK139.out 0).trans rfl, (blk_cell BK139.out 1).trans rfl, (blk_cell BK139.out 2).trans rfl⟩ (fun hHeld => ?_); refine with_tabW tattlerref22_Body.tab10 tattlerref22_Body.bits10 (fun HT_ HW_ => ?_)
      generalize w40.drew = w41 at HO_3 BK121 BK139 HB hHeld ⊢
      refine pure_ (i := 0) (N := some 54) (v := ?_) (a' := ?_) #[true, false, false, false, false, false, false, false, false, false, false, false, false, false, false, false, false, false, false] rfl rfl (any_of HT_.out (by kernel_rfl)) (fun _ _ _ h => h) (Or.inl ⟨by rfl, ?_⟩) ?_ ?_
      rotate_left
      ·
       intro w'
       go_simp
       with_reducible rfl
      rotate_left
      ·
       simp only [Act.put, List.setIfInBounds_toArray, List.set_cons_zero, List.set_cons_succ, i64_w, i32_w]
       rfl
      refine pure_ (i := 1) (N := some 55) (v := ?_) (a' := ?_) #[true, true, false, false, false, false, false, false, false, false, false, false, false, false, false, false, false, false, false] rfl rfl (any_of HT_.out (by kernel_rfl)) (fun _ _ _ h => h) (Or.inl ⟨by rfl, ?_⟩) ?_ ?_
      rotate_left
      ·
       intro w'
       go_simp
       with_reducible rfl
      rotate_left
      ·
       simp only [Act.put, List.setIfInBounds_toArray, List.set_cons_zero, List.set_cons_succ, i64_w, i32_w]
       rfl
      refine pure_ (i := 5) (N := some 59) (v := ?_) (a' := ?_) #[true, true, false, false, false, true, false, false, false, false, false, false, false, false, false, false, false, false, false] rfl rfl (any_of HT_.out (by kernel_rfl)) (fun _ _ _ h => h) (Or.inl ⟨by rfl, ?_⟩) ?_ ?_
      rotate_left
      ·
       intro w'
       go_simp
       with_reducible rfl
      rotate_left
      ·
       simp only [Act.put, List.setIfInBounds_toArray, List.set_cons_zero, List.set_cons_succ, i64_w, i32_w]
       rfl
      refine pure_ (i := 6) (N := some 60) (v := ?_) (a' := ?_) #[true, true, false, false, false, true, true, false, false, false, false, false, false, false, false, false, false, false, false] rfl rfl (any_of HT_.out (by kernel_rfl)) (fun _ _ _ h => h) (Or.inl ⟨by rfl, ?_⟩) ?_ ?_
      rotate_left
      ·
       intro w'
       go_simp
       with_reducible rfl
      rotate_left
      ·
       simp only [Act.put, List.setIfInBounds_toArray, List.set_cons_zero, List.set_cons_succ, i64_w, i32_w]
       rfl
      refine pure_ (i := 11) (N := some 65) (v := ?_) (a' := ?_) #[true, true, false, false, false, true, true, false, false, false, false, true, false, false, false, false, false, false, false] rfl rfl (any_of HT_.out (by kernel_rfl)) (fun _ _ _ h => h) (Or.inl ⟨by rfl, ?_⟩) ?_ ?_
      rotate_left
      ·
       intro w'
       go_simp
       with_reducible rfl
      rotate_left
      ·
       simp only [Act.put, List.setIfInBounds_toArray, List.set_cons_zero, List.set_cons_succ, i64_w, i32_w]
       rfl
      refine pure_ (i := 12) (N := some 66) (v := ?_) (a' := ?_) #[true, true, false, false, false, true, true, false, false, false, false, true, true, false, false, false, false, false, false] rfl rfl (any_of HT_.out (by kernel_rfl)) (fun _ _ _ h => h) (Or.inl ⟨by rfl, ?_⟩) ?_ ?_
      rotate_left
      ·
       intro w'
       go_simp
       with_reducible rfl
      rotate_left
      ·
       simp only [Act.put, List.setIfInBounds_toArray, List.set_cons_zero, List.set_cons_succ, i64_w, i32_w]
       rfl
      refine take_ (i := 2) (N := some 56) (v := ?_) (a' := ?_) #[true, true, true, false, false, true, true, false, false, false, false, true, true, false, false, false, false, false, false] rfl rfl (take_ofW HT_.out HW_.out (by kernel_rfl)) (fun _ _ _ h => h) (Or.inl ⟨by rfl, ?_⟩) hHeld ?_ ?_
      rotate_left
      ·
       rintro w' ⟨s0, s1, s2⟩
       go_simp
       with_reducible rfl
      rotate_left
      ·
       simp only [Act.put, List.setIfInBounds_toArray, List.set_cons_zero, List.set_cons_succ, i64_w, i32_w]
       rfl
      refine pure_ (i := 3) (N := some 57) (v := ?_) (a' := ?_) #[true, true, true, true, false, true, true, false, false, false, false, true, true, false, false, false, false, false, false] rfl rfl (any_of HT_.out (by kernel_rfl)) (fun _ _ _ h => h) (Or.inl ⟨by rfl, ?_⟩) ?_ ?_
      rotate_left
      ·
       intro w'
       go_simp
       with_reducible rfl
      rotate_left
      ·
       simp only [Act.put, List.setIfInBounds_toArray, List.set_cons_zero, List.set_cons_succ, i64_w, i32_w]
       rfl
      refine take_ (i := 7) (N := some 61) (v := ?_) (a' := ?_) #[true, true, true, true, false, true, true, true, false, false, false, true, true, false, false, false, false, false, false] rfl rfl (take_ofW HT_.out HW_.out (by kernel_rfl)) (fun _ _ _ h => h) (Or.inl ⟨by rfl, ?_⟩) hHeld ?_ ?_
      rotate_left
      ·
       rintro w' ⟨s0, s1, s2⟩
       go_simp
       with_reducible rfl
      rotate_left
      ·
       simp only [Act.put, List.setIfInBounds_toArray, List.set_cons_zero, List.set_cons_succ, i64_w, i32_w]
       rfl
      refine pure_ (i := 8) (N := some 62) (v := ?_) (a' := ?_) #[true, true, true, true, false, true, true, true, true, false, false, true, true, false, false, false, false, false, false] rfl rfl (any_of HT_.out (by kernel_rfl)) (fun _ _ _ h => h) (Or.inl ⟨by rfl, ?_⟩) ?_ ?_
      rotate_left
      ·
       intro w'
       go_simp
       with_reducible rfl
      rotate_left
      ·
       simp only [Act.put, List.setIfInBounds_toArray, List.set_cons_zero, List.set_cons_succ, i64_w, i32_w]
       rfl
      refine take_ (i := 13) (N := some 67) (v := ?_) (a' := ?_) #[true, true, true, true, false, true, true, true, true, false, false, true, true, true, false, false, false, false, false] rfl rfl (take_ofW HT_.out HW_.out (by kernel_rfl)) (fun _ _ _ h => h) (Or.inl ⟨by rfl, ?_⟩) hHeld ?_ ?_
      rotate_left
      ·
       rintro w' ⟨s0, s1, s2⟩
       go_simp
       with_reducible rfl
      rotate_left
      ·
       simp only [Act.put, List.setIfInBounds_toArray, List.set_cons_zero, List.set_cons_succ, i64_w, i32_w]
       rfl
      refine pure_ (i := 14) (N := some 68) (v := ?_) (a' := ?_) #[true, true, true, true, false, true, true, true, true, false, false, true, true, true, true, false, false, false, false] rfl rfl (any_of HT_.out (by kernel_rfl)) (fun _ _ _ h => h) (Or.inl ⟨by rfl, ?_⟩) ?_ ?_
      rotate_left
      ·
       intro w'
       go_simp
       with_reducible rfl
      rotate_left
      ·
       simp only [Act.put, List.setIfInBounds_toArray, List.set_cons_zero, List.set_cons_succ, i64_w, i32_w]
       rfl
      refine one_ (i := 4) (N := some 58) #[true, true, true, true, true, true, true, true, true, false, false, true, true, true, true, false, false, false, false] rfl rfl (one_of HT_.out (by kernel_rfl)) (by decide) (fun K hK => ?_)
      refine goes_ Try.func69 (by kernel_rfl) rfl #[.int .u64 (IntKind.u64.wrap ((rd_T72 l0_7 x46_2).f0))] (by rfl) rfl rfl (by (try simp only [List.map_toArray, List.map_cons, List.map_nil]); first | done | rfl | (simp only [List.length_drop, List.length_take]; rfl)) ?_
      with_reducible refine (tattlerref22_put.calls (IntKind.u64.wrap ((rd_T72 l0_7 x46_2).f0)) t140 _ A30.out).mono ?_
      rintro e w42 ⟨rfl, hb⟩
      refine ⟨_, rfl, ?_⟩
      have n0_ := Aside0.mk (BRow.R_below (by (with_reducible repeat (first | apply BRow.rA | apply BRow.rN | apply BRow.rD)); exact HO_3.out) hb)
      have n1_ := Aside0.mk (blk_below (g := gb121) (o := .cells #[.int .u8 a0_0, .int .u8 a0_1, .int .u8 a0_2, .int .u32 a0_3, .int .u8 a0_4, .int .u8 a0_5, .bool a0_6, .slice (some ad138) l0_7.length c0_7, .slice A0_8 l0_8.length c0_8, .slice A0_9 l0_9.length c0_9, .slice A0_10 l0_10.length c0_10, .slice A0_11 l0_11.length c0_11] 29 (0, 0)) (by (with_reducible repeat (first | refine bN ?_ _ | refine bD ?_ | refine bA ?_ _)); exact BK121.out) hb)
      have n2_ := Aside0.mk (blk_below (g := gb139) (o := .cells #[.int .u8 ((rd_T72 l0_7 x46_2).f0), .int .u8 ((rd_T72 l0_7 x46_2).f1.f0), .int .u32 ((rd_T72 l0_7 x46_2).f1.f1)] 72 (0, 0)) (by (with_reducible repeat (first | refine bN ?_ _ | refine bD ?_ | refine bA ?_ _)); exact BK139.out) hb)
      have n3_ := Aside0.mk (below_step (by repeat (first | (with_reducible first | exact HB.out | apply qA | apply qN | apply qD | refine below_set ?_ GE121.out | refine below_set ?_ GE139.out) | exact HB.out)) hb)
      clear HO_3
      clear BK121
      clear BK139
      clear HB
      have HO_3 := n0_
      have BK121 := n1_
      have BK139 := n2_
      have HB := n3_
      clear n0_ n1_ n2_ n3_
      (try clear hb)
      (try clear hb2)
      (try clear hk)
      (try clear hi)
      refine hK.out _ _ ⟨(blk_cell BK139.out 0).trans rfl, (blk_cell BK139.out 1).trans rfl, (blk_cell BK139.out 2).trans rfl⟩ (fun hHeld => ?_)
      clear hK K
      refine norm_ (a' := ?_) ?_ ?_
      rotate_left
      ·
       show Act.put _ (some 58) _ = _
       simp only [Act.put, List.setIfInBounds_toArray, List.set_cons_zero, List.set_cons_succ, i64_w, i32_w]
       rfl
      refine one_ (i := 9) (N := some 63) #[true, true, true, true, true, true, true, true, true, true, false, true, true, true, true, false, false, false, false] rfl rfl (one_of HT_.out (by kernel_rfl)) (by decide) (fun K hK => ?_)
      refine goes_ Try.func69 (by kernel_rfl) rfl #[.int .u64 (IntKind.u64.wrap ((rd_T72 l0_7 x46_2).f1.f0))] (by rfl) rfl rfl (by (try simp only [List.map_toArray, List.map_cons, List.map_nil]); first | done | rfl | (simp only [List.length_drop, List.length_take]; rfl)) ?_
      with_reducible refine (tattlerref22_put.calls (IntKind.u64.wrap ((rd_T72 l0_7 x46_2).f1.f0)) t141 _ A31.out).mono ?_
      rintro e w43 ⟨rfl, hb⟩
      refine ⟨_, rfl, ?_⟩
      have n0_ := Aside0.mk (BRow.R_below (by (with_reducible repeat (first | apply BRow.rA | apply BRow.rN | apply BRow.rD)); exact HO_3.out) hb)
      have n1_ := Aside0.mk (blk_below (g := gb121) (o := .cells #[.int .u8 a0_0, .int .u8 a0_1, .int .u8 a0_2, .int .u32 a0_3, .int .u8 a0_4, .int .u8 a0_5, .bool a0_6, .slice (some ad138) l0_7.length c0_7, .slice A0_8 l0_8.length c0_8, .slice A0_9 l0_9.length c0_9, .slice A0_10 l0_10.length c0_10, .slice A0_11 l0_11.length c0_11] 29 (0, 0)) (by (with_reducible repeat (first | refine bN ?_ _ | refine bD ?_ | refine bA ?_ _)); exact BK121.out) hb)
      have n2_ := Aside0.mk (blk_below (g := gb139) (o := .cells #[.int .u8 ((rd_T72 l0_7 x46_2).f0), .int .u8 ((rd_T72 l0_7 x46_2).f1.f0), .int .u32 ((rd_T72 l0_7 x46_2).f1.f1)] 72 (0, 0)) (by (with_reducible repeat (first | refine bN ?_ _ | refine bD ?_ | refine bA ?_ _)); exact BK139.out) hb)
      have n3_ := Aside0.mk (below_step (by repeat (first | (with_reducible first | exact HB.out | apply qA | apply qN | apply qD | refine below_set ?_ GE121.out | refine below_set ?_ GE139.out) | exact HB.out)) hb)
      clear HO_3
      clear BK121
      clear BK139
      clear HB
      have HO_3 := n0_
      have BK121 := n1_
      have BK139 := n2_
      have HB := n3_
      clear n0_ n1_ n2_ n3_
      (try clear hb)
      (try clear hb2)
      (try clear hk)
      (try clear hi)
      refine hK.out _ _ ⟨(blk_cell BK139.out 0).trans rfl, (blk_cell BK139.out 1).trans rfl, (blk_cell BK139.out 2).trans rfl⟩ (fun hHeld => ?_)
      clear hK K
      refine norm_ (a' := ?_) ?_ ?_
      rotate_left
      ·
       show Act.put _ (some 63) _ = _
       simp only [Act.put, List.setIfInBounds_toArray, List.set_cons_zero, List.set_cons_succ, i64_w, i32_w]
       rfl
      refine pure_ (i := 10) (N := some 64) (v := ?_) (a' := ?_) #[true, true, true, true, true, true, true, true, true, true, true, true, true, true, true, false, false, false, false] rfl rfl (any_of HT_.out (by kernel_rfl)) (fun _ _ _ h => h) (Or.inl ⟨by rfl, ?_⟩) ?_ ?_
      rotate_left
      ·
       intro w'
       go_simp
       with_reducible rfl
      rotate_left
      ·
       simp only [Act.put, List.setIfInBounds_toArray, List.set_cons_zero, List.set_cons_succ, i64_w, i32_w]
       rfl
      refine one_ (i := 15) (N := some 69) #[true, true, true, true, true, true, true, true, true, true, true, true, true, true, true, true, false, false, false] rfl rfl (one_of HT_.out (by kernel_rfl)) (by decide) (fun K hK => ?_)
      refine goes_ Try.func69 (by kernel_rfl) rfl #[.int .u64 (IntKind.u64.wrap ((rd_T72 l0_7 x46_2).f1.f1))] (by rfl) rfl rfl (by (try simp only [List.map_toArray, List.map_cons, List.map_nil]); first | done | rfl | (simp only [List.length_drop, List.length_take]; rfl)) ?_
      with_reducible refine (tattlerref22_put.calls (IntKind.u64.wrap ((rd_T72 l0_7 x46_2).f1.f1)) t142 _ A33.out).mono ?_
      rintro e w44 ⟨rfl, hb⟩
      refine ⟨_, rfl, ?_⟩
      have n0_ := Aside0.mk (BRow.R_below (by (with_reducible repeat (first | apply BRow.rA | apply BRow.rN | apply BRow.rD)); exact HO_3.out) hb)
      have n1_ := Aside0.mk (blk_below (g := gb121) (o := .cells #[.int .u8 a0_0, .int .u8 a0_1, .int .u8 a0_2, .int .u32 a0_3, .int .u8 a0_4, .int .u8 a0_5, .bool a0_6, .slice (some ad138) l0_7.length c0_7, .slice A0_8 l0_8.length c0_8, .slice A0_9 l0_9.length c0_9, .slice A0_10 l0_10.length c0_10, .slice A0_11 l0_11.length c0_11] 29 (0, 0)) (by (with_reducible repeat (first | refine bN ?_ _ | refine bD ?_ | refine bA ?_ _)); exact BK121.out) hb)
      have n2_ := Aside0.mk (blk_below (g := gb139) (o := .cells #[.int .u8 ((rd_T72 l0_7 x46_2).f0), .int .u8 ((rd_T72 l0_7 x46_2).f1.f0), .int .u32 ((rd_T72 l0_7 x46_2).f1.f1)] 72 (0, 0)) (by (with_reducible repeat (first | refine bN ?_ _ | refine bD ?_ | refine bA ?_ _)); exact BK139.out) hb)
      have n3_ := Aside0.mk (below_step (by repeat (first | (with_reducible first | exact HB.out | apply qA | apply qN | apply qD | refine below_set ?_ GE121.out | refine below_set ?_ GE139.out) | exact HB.out)) hb)
      clear HO_3
      clear BK121
      clear BK139
      clear HB
      have HO_3 := n0_
      have BK121 := n1_
      have BK139 := n2_
      have HB := n3_
      clear n0_ n1_ n2_ n3_
      (try clear hb)
      (try clear hb2)
      (try clear hk)
      (try clear hi)
      refine hK.out _ _ ⟨(blk_cell BK139.out 0).trans rfl, (blk_cell BK139.out 1).trans rfl, (blk_cell BK139.out 2).trans rfl⟩ (fun hHeld => ?_)
      clear hK K
      refine norm_ (a' := ?_) ?_ ?_
      rotate_left
      ·
       show Act.put _ (some 69) _ = _
       simp only [Act.put, List.setIfInBounds_toArray, List.set_cons_zero, List.set_cons_succ, i64_w, i32_w]
       rfl
      refine pure_ (i := 16) (N := some 70) (v := ?_) (a' := ?_) #[true, true, true, true, true, true, true, true, true, true, true, true, true, true, true, true, true, false, false] rfl rfl (any_of HT_.out (by kernel_rfl)) (fun _ _ _ h => h) (Or.inl ⟨by rfl, ?_⟩) ?_ ?_
      rotate_left
      ·
       intro w'
       go_simp
       with_reducible rfl
      rotate_left
      ·
       simp only [Act.put, List.setIfInBounds_toArray, List.set_cons_zero, List.set_cons_succ, i64_w, i32_w]
       rfl
      refine one_ (i := 17) (N := some 71) #[true, true, true, true, true, true, true, true, true, true, true, true, true, true, true, true, true, true, false] rfl rfl (one_of HT_.out (by kernel_rfl)) (by decide) (fun K hK => ?_)
      refine BRow.append_str_step (w0 := w) w.heap.size (by rfl) (.tmp 54) _ 63 9 5 rfl Try.underlying63 Try.underlying9 info5 u3 x3_2 ((t140 ++ t141) ++ t142) rfl rfl ?aO ?aB ?aS ?aL ?_
      (case aB => exact (by repeat (first | (with_reducible first | exact HB.out | apply qA | apply qN | apply qD | refine below_set ?_ GE121.out | refine below_set ?_ GE139.out) | exact HB.out)))
      (case aO => exact (BRow.own_of_R (by (with_reducible repeat (first | apply BRow.rA | apply BRow.rN | apply BRow.rD)); exact HO_3.out)))
      (case aS => exact (below_size (by repeat (first | (with_reducible first | exact HB.out | apply qA | apply qN | apply qD | refine below_set ?_ GE121.out | refine below_set ?_ GE139.out) | exact HB.out))))
      (case aL => have := LMc35.out; omega)
      intro v144 w45 ho0 hb hg
      have ho := BRow.R_of_own (ok := fun _ => True) ho0 (fun _ _ => trivial)
      clear ho0
      have hat := True.intro
      rw [← Ny143.out] at ho
      change BRow.R 5 w45 w.heap.size (fun _ => True) v144 y143 at ho
      have n0_ := Aside0.mk (blk_grown (g := gb121) (o := .cells #[.int .u8 a0_0, .int .u8 a0_1, .int .u8 a0_2, .int .u32 a0_3, .int .u8 a0_4, .int .u8 a0_5, .bool a0_6, .slice (some ad138) l0_7.length c0_7, .slice A0_8 l0_8.length c0_8, .slice A0_9 l0_9.length c0_9, .slice A0_10 l0_10.length c0_10, .slice A0_11 l0_11.length c0_11] 29 (0, 0)) (by (with_reducible repeat (first | refine bN ?_ _ | refine bD ?_ | refine bA ?_ _)); exact BK121.out) hg (BRow.R_ne HO_3.out BK121.out (by decide)))
      have n1_ := Aside0.mk (blk_grown (g := gb139) (o := .cells #[.int .u8 ((rd_T72 l0_7 x46_2).f0), .int .u8 ((rd_T72 l0_7 x46_2).f1.f0), .int .u32 ((rd_T72 l0_7 x46_2).f1.f1)] 72 (0, 0)) (by (with_reducible repeat (first | refine bN ?_ _ | refine bD ?_ | refine bA ?_ _)); exact BK139.out) hg (BRow.R_ne HO_3.out BK139.out (by decide)))
      have n2_ := Aside0.mk (hb)
      have n3_ := Aside0.mk (ho)
      clear BK121
      clear BK139
      clear HB
      clear HO_3
      have BK121 := n0_
      have BK139 := n1_
      have HB := n2_
      have HO145 := n3_
      clear n0_ n1_ n2_ n3_
      clear ho hb hg hat
      refine hK.out _ _ ⟨(blk_cell BK139.out 0).trans rfl, (blk_cell BK139.out 1).trans rfl, (blk_cell BK139.out 2).trans rfl⟩ (fun hHeld => ?_)
      clear hK K
      refine norm_ (a' := ?_) ?_ ?_
      rotate_left
      ·
       show Act.put _ (some 71) _ = _
       simp only [Act.put, List.setIfInBounds_toArray, List.set_cons_zero, List.set_cons_succ, i64_w, i32_w]
       rfl
      refine pure_ (i := 18) (N := some 3) (v := ?_) (a' := ?_) #[true, true, true, true, true, true, true, true, true, true, true, true, true, true, true, true, true, true, true] rfl rfl (any_of HT_.out (by kernel_rfl)) (fun _ _ _ h => h) (Or.inl ⟨by rfl, ?_⟩) ?_ ?_
      rotate_left
      ·
       intro w'
       go_simp
       with_reducible rfl
      rotate_left
      ·
       simp only [Act.put, List.setIfInBounds_toArray, List.set_cons_zero, List.set_cons_succ, i64_w, i32_w]
       rfl
      refine done_ (done_of HT_.out (by kernel_rfl)) ?_
      try go_wp2
      go_roundg k2
      case measure => have := HJ7.out; have := HK2.out; omega
      case rel => exact ⟨(y143), (wrap64 (x46_2 + 1)), (by first | rfl | (simp; done) | (simp [*]; done)), H', ⟨by have := HJ7.out; have := HK2.out; omega⟩, ⟨by (with_reducible repeat (first | apply BRow.rA | apply BRow.rN | apply BRow.rD)); exact HO145.out⟩, ⟨by (with_reducible repeat (first | refine bN ?_ _ | refine bD ?_ | refine bA ?_ _)); exact BK121.out⟩, ⟨by repeat (first | (with_reducible first | exact HB.out | apply qA | apply qN | apply qD | refine below_set ?_ GE121.out | refine below_set ?_ GE139.out) | exact HB.out)⟩⟩
     rw [if_neg c27] at H
     have c27b0 : decide (x46_2 < (l0_7.length : Int)) = false := decide_eq_false c27
     clear c27
     replace H := Option.bind_eq_some_iff.mp H
     obtain ⟨t146, A460, H⟩ := H
     replace H : (if x3_2.length + t146.size < 140737488355328 then (tattlerref22_Body.l1 k2 (x3_2 ++ bytesOf t146) (l0_8.length : Int) 0 a0_0 a0_1 a0_2 a0_3 a0_4 a0_5 a0_6 l0_7 l0_8 l0_9 l0_10 l0_11) else (none)) = some r := H
     have A46 := Aside0.mk A460
     clear A460
     by_cases c47 : x3_2.length + t146.size < 140737488355328
     rotate_left
     ·
      rw [if_neg c47] at H
      exact absurd H (by simp)
     rw [if_pos c47] at H
     have LMc47 := Aside0.mk c47
     clear c47
     obtain ⟨y147, hy147⟩ : ∃ y_ : List Int, y_ = (x3_2 ++ bytesOf t146) := ⟨_, rfl⟩
     replace H : (tattlerref22_Body.l1 k2 y147 (l0_8.length : Int) 0 a0_0 a0_1 a0_2 a0_3 a0_4 a0_5 a0_6 l0_7 l0_8 l0_9 l0_10 l0_11) = some r := by first | (rw [hy147]; with_reducible exact H) | (have H2_ := (Option.bind_some _ _).symm.trans H; rw [hy147]; with_reducible exact H2_) | (have H2_ := (Option.bind_some _ _).symm.trans H; with_reducible exact H2_) | with_reducible exact H | (rw [hy147]; exact H) | exact H
     have Ny147 := Aside0.mk hy147
     clear hy147
     have H' := Aside0.mk H
     clear H
     have hcz48_0 : wr.cell? ⟨gb121, 0, none⟩ = some (.int .u8 a0_0) := (blk_cell BK121.out 0).trans rfl
     have hcz48_1 : wr.cell? ⟨gb121, 1, none⟩ = some (.int .u8 a0_1) := (blk_cell BK121.out 1).trans rfl
     have hcz48_2 : wr.cell? ⟨gb121, 2, none⟩ = some (.int .u8 a0_2) := (blk_cell BK121.out 2).trans rfl
     have hcz48_3 : wr.cell? ⟨gb121, 3, none⟩ = some (.int .u32 a0_3) := (blk_cell BK121.out 3).trans rfl
     have hcz48_4 : wr.cell? ⟨gb121, 4, none⟩ = some (.int .u8 a0_4) := (blk_cell BK121.out 4).trans rfl
     have hcz48_5 : wr.cell? ⟨gb121, 5, none⟩ = some (.int .u8 a0_5) := (blk_cell BK121.out 5).trans rfl
     have hcz48_6 : wr.cell? ⟨gb121, 6, none⟩ = some (.bool a0_6) := (blk_cell BK121.out 6).trans rfl
     have hcz48_7 : wr.cell? ⟨gb121, 7, none⟩ = some (.slice A0_7 l0_7.length c0_7) := (blk_cell BK121.out 7).trans rfl
     have hcz48_8 : wr.cell? ⟨gb121, 8, none⟩ = some (.slice A0_8 l0_8.length c0_8) := (blk_cell BK121.out 8).trans rfl
     have hcz48_9 : wr.cell? ⟨gb121, 9, none⟩ = some (.slice A0_9 l0_9.length c0_9) := (blk_cell BK121.out 9).trans rfl
     have hcz48_10 : wr.cell? ⟨gb121, 10, none⟩ = some (.slice A0_10 l0_10.length c0_10) := (blk_cell BK121.out 10).trans rfl
     have hcz48_11 : wr.cell? ⟨gb121, 11, none⟩ = some (.slice A0_11 l0_11.length c0_11) := (blk_cell BK121.out 11).trans rfl
     have hfz48_0 := blk_frozen BK121.out 0
     have hfz48_1 := blk_frozen BK121.out 1
     have hfz48_2 := blk_frozen BK121.out 2
     have hfz48_3 := blk_frozen BK121.out 3
     have hfz48_4 := blk_frozen BK121.out 4
     have hfz48_5 := blk_frozen BK121.out 5
     have hfz48_6 := blk_frozen BK121.out 6
     have hfz48_7 := blk_frozen BK121.out 7
     have hfz48_8 := blk_frozen BK121.out 8
     have hfz48_9 := blk_frozen BK121.out 9
     have hfz48_10 := blk_frozen BK121.out 10
     have hfz48_11 := blk_frozen BK121.out 11
     go_wp2_with (first | ((with_reducible refine gate_callee (f := 69) rfl ?_); refine goesL_ (some 78) rfl rfl Try.func69 (by kernel_rfl) rfl #[.int .u64 (IntKind.u64.wrap ((l0_8.length : Int)))] rfl (by (try simp only [List.map_toArray, List.map_cons, List.map_nil]); first | done | rfl | (simp only [List.length_drop, List.length_take]; rfl)) ?_; (with_reducible refine (tattlerref22_put.calls (IntKind.u64.wrap ((l0_8.length : Int))) t146 _ A46.out).mono ?_); rintro e w49 ⟨rfl, hb⟩; refine ⟨_, rfl, ?_⟩; have n0_ := Aside0.mk (BRow.R_below (by (with_reducible repeat (first | apply BRow.rA | apply BRow.rN | apply BRow.rD)); exact HO_3.out) hb); have n1_ := Aside0.mk (blk_below (g := gb121) (o := .cells #[.int .u8 a0_0, .int .u8 a0_1, .int .u8 a0_2, .int .u32 a0_3, .int .u8 a0_4, .int .u8 a0_5, .bool a0_6, .slice A0_7 l0_7.length c0_7, .slice A0_8 l0_8.length c0_8, .slice A0_9 l0_9.length c0_9, .slice A0_10 l0_10.length c0_10, .slice A0_11 l0_11.length c0_11] 29 (0, 0)) (by (with_reducible repeat (first | refine bN ?_ _ | refine bD ?_ | refine bA ?_ _)); exact BK121.out) hb); have n2_ := Aside0.mk (below_step (by repeat (first | (with_reducible first | exact HB.out | apply qA | apply qN | apply qD | refine below_set ?_ GE121.out) | exact HB.out)) hb); clear HO_3; clear BK121; clear HB; have HO_3 := n0_; have BK121 := n1_; have HB := n2_; clear n0_ n1_ n2_; (try clear hb); (try clear hb2); (try clear hk); (try clear hi)) | (at_builtin; refine BRow.append_str (w0 := w) w.heap.size rfl (.tmp 73) _ 63 9 5 rfl Try.underlying63 Try.underlying9 info5 u3 x3_2 t146 rfl rfl ?aO ?aB ?aS ?aL ?_; (case aB => exact (by repeat (first | (with_reducible first | exact HB.out | apply qA | apply qN | apply qD | refine below_set ?_ GE121.out) | exact HB.out))); (case aO => exact (BRow.own_of_R (by (with_reducible repeat (first | apply BRow.rA | apply BRow.rN | apply BRow.rD)); exact HO_3.out))); (case aS => exact (below_size (by repeat (first | (with_reducible first | exact HB.out | apply qA | apply qN | apply qD | refine below_set ?_ GE121.out) | exact HB.out)))); (case aL => have := LMc47.out; omega); intro v148 w50 ho0 hb hg; have ho := BRow.R_of_own (ok := fun _ => True) ho0 (fun _ _ => trivial); clear ho0; have hat := True.intro; rw [← Ny147.out] at ho; change BRow.R 5 w50 w.heap.size (fun _ => True) v148 y147 at ho; have n0_ := Aside0.mk (blk_grown (g := gb121) (o := .cells #[.int .u8 a0_0, .int .u8 a0_1, .int .u8 a0_2, .int .u32 a0_3, .int .u8 a0_4, .int .u8 a0_5, .bool a0_6, .slice A0_7 l0_7.length c0_7, .slice A0_8 l0_8.length c0_8, .slice A0_9 l0_9.length c0_9, .slice A0_10 l0_10.length c0_10, .slice A0_11 l0_11.length c0_11] 29 (0, 0)) (by (with_reducible repeat (first | refine bN ?_ _ | refine bD ?_ | refine bA ?_ _)); exact BK121.out) hg (BRow.R_ne HO_3.out BK121.out (by decide))); have n1_ := Aside0.mk (hb); have n2_ := Aside0.mk (ho); clear BK121; clear HB; clear HO_3; have BK121 := n0_; have HB := n1_; have HO149 := n2_; clear n0_ n1_ n2_; clear ho hb hg hat; have hcz51_0 : w50.cell? ⟨gb121, 0, none⟩ = some (.int .u8 a0_0) := (blk_cell BK121.out 0).trans rfl; have hcz51_1 : w50.cell? ⟨gb121, 1, none⟩ = some (.int .u8 a0_1) := (blk_cell BK121.out 1).trans rfl; have hcz51_2 : w50.cell? ⟨gb121, 2, none⟩ = some (.int .u8 a0_2) := (blk_cell BK121.out 2).trans rfl; have hcz51_3 : w50.cell? ⟨gb121, 3, none⟩ = some (.int .u32 a0_3) := (blk_cell BK121.out 3).trans rfl; have hcz51_4 : w50.cell? ⟨gb121, 4, none⟩ = some (.int .u8 a0_4) := (blk_cell BK121.out 4).trans rfl; have hcz51_5 : w50.cell? ⟨gb121, 5, none⟩ = some (.int .u8 a0_5) := (blk_cell BK121.out 5).trans rfl; have hcz51_6 : w50.cell? ⟨gb121, 6, none⟩ = some (.bool a0_6) := (blk_cell BK121.out 6).trans rfl; have hcz51_7 : w50.cell? ⟨gb121, 7, none⟩ = some (.slice A0_7 l0_7.length c0_7) := (blk_cell BK121.out 7).trans rfl; have hcz51_8 : w50.cell? ⟨gb121, 8, none⟩ = some (.slice A0_8 l0_8.length c0_8) := (blk_cell BK121.out 8).trans rfl; have hcz51_9 : w50.cell? ⟨gb121, 9, none⟩ = some (.slice A0_9 l0_9.length c0_9) := (blk_cell BK121.out 9).trans rfl; have hcz51_10 : w50.cell? ⟨gb121, 10, none⟩ = some (.slice A0_10 l0_10.length c0_10) := (blk_cell BK121.out 10).trans rfl; have hcz51_11 : w50.cell? ⟨gb121, 11, none⟩ = some (.slice A0_11 l0_11.length c0_11) := (blk_cell BK121.out 11).trans rfl; have hfz51_0 := blk_frozen BK121.out 0; have hfz51_1 := blk_frozen BK121.out 1; have hfz51_2 := blk_frozen BK121.out 2; have hfz51_3 := blk_frozen BK121.out 3; have hfz51_4 := blk_frozen BK121.out 4; have hfz51_5 := blk_frozen BK121.out 5; have hfz51_6 := blk_frozen BK121.out 6; have hfz51_7 := blk_frozen BK121.out 7; have hfz51_8 := blk_frozen BK121.out 8; have hfz51_9 := blk_frozen BK121.out 9; have hfz51_10 := blk_frozen BK121.out 10; have hfz51_11 := blk_frozen BK121.out 11))
     go_loopg [3, 83] k2 (fun kq v3 v83 w' => ∃ (x3_3 : List Int) (x83_3 : Int), v83 = .int .i64 x83_3 ∧ Aside0 (tattlerref22_Body.l1 kq x3_3 (l0_8.length : Int) x83_3 a0_0 a0_1 a0_2 a0_3 a0_4 a0_5 a0_6 l0_7 l0_8 l0_9 l0_10 l0_11 = some r) ∧ Aside0 (kq ≤ k2) ∧ Aside0 (BRow.R 5 w' w.heap.size (fun _ => True) v3 x3_3) ∧ Aside0 (w'.heap[gb121]? = some (.cells #[.int .u8 a0_0, .int .u8 a0_1, .int .u8 a0_2, .int .u32 a0_3, .int .u8 a0_4, .int .u8 a0_5, .bool a0_6, (.slice A0_7 l0_7.length c0_7), (.slice A0_8 l0_8.length c0_8), (.slice A0_9 l0_9.length c0_9), (.slice A0_10 l0_10.length c0_10), (.slice A0_11 l0_11.length c0_11)] 29 (0, 0))) ∧ Aside0 (Below w.heap.size w w'))
     case atStart => exact ⟨(y147), (0), (by first | rfl | (simp; done) | (simp [*]; done)), H', ⟨Nat.le_refl _⟩, ⟨by (with_reducible repeat (first | apply BRow.rA | apply BRow.rN | apply BRow.rD)); exact HO149.out⟩, ⟨by (with_reducible repeat (first | refine bN ?_ _ | refine bD ?_ | refine bA ?_ _)); exact BK121.out⟩, ⟨by repeat (first | (with_reducible first | exact HB.out | apply qA | apply qN | apply qD | refine below_set ?_ GE121.out) | exact HB.out)⟩⟩
     case round =>
      clear H'
      try clear c1
      try clear p1
      try clear q1
      try clear hx1
      try clear c2
      try clear p2
      try clear c3
      try clear c4
      try clear c4b0
      try clear c4b1
      try clear c4b2
      try clear c6
      try clear c6b0
      try clear c6b1
      try clear c6b2
      try clear p6
      try clear c7
      try clear p13
      try clear q13
      try clear hx13
      try clear c16
      try clear c17
      try clear c19
      try clear c22
      try clear c26
      try clear c27
      try clear c27b0
      try clear c28
      try clear c28b0
      try clear c29
      try clear c29b0
      try clear c32
      try clear c32b0
      try clear c32b1
      try clear c32b2
      try clear c34
      try clear c34b0
      try clear c34b1
      try clear c34b2
      try clear c35
      try clear c38
      try clear c47
      try clear hcz15_0
      try clear hcz15_1
      try clear hcz15_10
      try clear hcz15_11
      try clear hcz15_2
      try clear hcz15_3
      try clear hcz15_4
      try clear hcz15_5
      try clear hcz15_6
      try clear hcz15_7
      try clear hcz15_8
      try clear hcz15_9
      try clear hcz23_0
      try clear hcz23_1
      try clear hcz23_10
      try clear hcz23_11
      try clear hcz23_2
      try clear hcz23_3
      try clear hcz23_4
      try clear hcz23_5
      try clear hcz23_6
      try clear hcz23_7
      try clear hcz23_8
      try clear hcz23_9
      try clear hcz26_0
      try clear hcz26_1
      try clear hcz26_10
      try clear hcz26_11
      try clear hcz26_2
      try clear hcz26_3
      try clear hcz26_4
      try clear hcz26_5
      try clear hcz26_6
      try clear hcz26_7
      try clear hcz26_8
      try clear hcz26_9
      try clear hcz36_0
      try clear hcz36_1
      try clear hcz36_10
      try clear hcz36_11
      try clear hcz36_2
      try clear hcz36_3
      try clear hcz36_4
      try clear hcz36_5
      try clear hcz36_6
      try clear hcz36_7
      try clear hcz36_8
      try clear hcz36_9
      try clear hcz39_0
      try clear hcz39_1
      try clear hcz39_2
      try clear hcz48_0
      try clear hcz48_1
      try clear hcz48_10
      try clear hcz48_11
      try clear hcz48_2
      try clear hcz48_3
      try clear hcz48_4
      try clear hcz48_5
      try clear hcz48_6
      try clear hcz48_7
      try clear hcz48_8
      try clear hcz48_9
      try clear hcz51_0
      try clear hcz51_1
      try clear hcz51_10
      try clear hcz51_11
      try clear hcz51_2
      try clear hcz51_3
      try clear hcz51_4
      try clear hcz51_5
      try clear hcz51_6
      try clear hcz51_7
      try clear hcz51_8
      try clear hcz51_9
      try clear hfz15_0
      try clear hfz15_1
      try clear hfz15_10
      try clear hfz15_11
      try clear hfz15_2
      try clear hfz15_3
      try clear hfz15_4
      try clear hfz15_5
      try clear hfz15_6
      try clear hfz15_7
      try clear hfz15_8
      try clear hfz15_9
      try clear hfz23_0
      try clear hfz23_1
      try clear hfz23_10
      try clear hfz23_11
      try clear hfz23_2
      try clear hfz23_3
      try clear hfz23_4
      try clear hfz23_5
      try clear hfz23_6
      try clear hfz23_7
      try clear hfz23_8
      try clear hfz23_9
      try clear hfz26_0
      try clear hfz26_1
      try clear hfz26_10
      try clear hfz26_11
      try clear hfz26_2
      try clear hfz26_3
      try clear hfz26_4
      try clear hfz26_5
      try clear hfz26_6
      try clear hfz26_7
      try clear hfz26_8
      try clear hfz26_9
      try clear hfz36_0
      try clear hfz36_1
      try clear hfz36_10
      try clear hfz36_11
      try clear hfz36_2
      try clear hfz36_3
      try clear hfz36_4
      try clear hfz36_5
      try clear hfz36_6
      try clear hfz36_7
      try clear hfz36_8
      try clear hfz36_9
      try clear hfz39_0
      try clear hfz39_1
      try clear hfz39_2
      try clear hfz48_0
      try clear hfz48_1
      try clear hfz48_10
      try clear hfz48_11
      try clear hfz48_2
      try clear hfz48_3
      try clear hfz48_4
      try clear hfz48_5
      try clear hfz48_6
      try clear hfz48_7
      try clear hfz48_8
      try clear hfz48_9
      try clear hfz51_0
      try clear hfz51_1
      try clear hfz51_10
      try clear hfz51_11
      try clear hfz51_2
      try clear hfz51_3
      try clear hfz51_4
      try clear hfz51_5
      try clear hfz51_6
      try clear hfz51_7
      try clear hfz51_8
      try clear hfz51_9
      try clear hx138_0
      try clear hx138_1
      try clear hx138_2
      try clear p138
      try clear p2
      try clear q138
      obtain ⟨x3_3, x83_3, rfl, HA, HK3, HO_3, BK121, HB⟩ := hrel
      cases gk with
      | zero => exact absurd HA.out (by simp [tattlerref22_Body.l1])
      | succ k3 =>
       have H := HA.out
       clear HA
       simp only [tattlerref22_Body.l1] at H
       by_cases c52 : x83_3 < (l0_8.length : Int)
       ·
        rw [if_pos c52] at H
        have c52b0 : decide (x83_3 < (l0_8.length : Int)) = true := decide_eq_true c52
        clear c52
        by_cases c53 : 0 ≤ x83_3
        rotate_left
        ·
         rw [if_neg c53] at H
         exact absurd H (by simp)
        rw [if_pos c53] at H
        have c53b0 : decide (0 ≤ x83_3) = true := decide_eq_true c53
        clear c53
        by_cases c54 : x83_3 < (l0_8.length : Int)
        rotate_left
        ·
         rw [if_neg c54] at H
         exact absurd H (by simp)
        rw [if_pos c54] at H
        have c54b0 : decide (x83_3 < (l0_8.length : Int)) = true := decide_eq_true c54
        clear c54
        replace H := Option.bind_eq_some_iff.mp H
        obtain ⟨t151, A550, H⟩ := H
        replace H : (if x3_3.length + t151.size < 140737488355328 then (tattlerref22_Body.l1 k3 (x3_3 ++ bytesOf t151) (l0_8.length : Int) (wrap64 (x83_3 + 1)) a0_0 a0_1 a0_2 a0_3 a0_4 a0_5 a0_6 l0_7 l0_8 l0_9 l0_10 l0_11) else (none)) = some r := H
        have A55 := Aside0.mk A550
        clear A550
        by_cases c56 : x3_3.length + t151.size < 140737488355328
        rotate_left
        ·
         rw [if_neg c56] at H
         exact absurd H (by simp)
        rw [if_pos c56] at H
        have LMc56 := Aside0.mk c56
        clear c56
        obtain ⟨y152, hy152⟩ : ∃ y_ : List Int, y_ = (x3_3 ++ bytesOf t151) := ⟨_, rfl⟩
        replace H : (tattlerref22_Body.l1 k3 y152 (l0_8.length : Int) (wrap64 (x83_3 + 1)) a0_0 a0_1 a0_2 a0_3 a0_4 a0_5 a0_6 l0_7 l0_8 l0_9 l0_10 l0_11) = some r := by first | (rw [hy152]; with_reducible exact H) | (have H2_ := (Option.bind_some _ _).symm.trans H; rw [hy152]; with_reducible exact H2_) | (have H2_ := (Option.bind_some _ _).symm.trans H; with_reducible exact H2_) | with_reducible exact H | (rw [hy152]; exact H) | exact H
        have Ny152 := Aside0.mk hy152
        clear hy152
        have H' := Aside0.mk H
        clear H
        have hcz57_0 : wr.cell? ⟨gb121, 0, none⟩ = some (.int .u8 a0_0) := (blk_cell BK121.out 0).trans rfl
        have hcz57_1 : wr.cell? ⟨gb121, 1, none⟩ = some (.int .u8 a0_1) := (blk_cell BK121.out 1).trans rfl
        have hcz57_2 : wr.cell? ⟨gb121, 2, none⟩ = some (.int .u8 a0_2) := (blk_cell BK121.out 2).trans rfl
        have hcz57_3 : wr.cell? ⟨gb121, 3, none⟩ = some (.int .u32 a0_3) := (blk_cell BK121.out 3).trans rfl
        have hcz57_4 : wr.cell? ⟨gb121, 4, none⟩ = some (.int .u8 a0_4) := (blk_cell BK121.out 4).trans rfl
        have hcz57_5 : wr.cell? ⟨gb121, 5, none⟩ = some (.int .u8 a0_5) := (blk_cell BK121.out 5).trans rfl
        have hcz57_6 : wr.cell? ⟨gb121, 6, none⟩ = some (.bool a0_6) := (blk_cell BK121.out 6).trans rfl
        have hcz57_7 : wr.cell? ⟨gb121, 7, none⟩ = some (.slice A0_7 l0_7.length c0_7) := (blk_cell BK121.out 7).trans rfl
        have hcz57_8 : wr.cell? ⟨gb121, 8, none⟩ = some (.slice A0_8 l0_8.length c0_8) := (blk_cell BK121.out 8).trans rfl
        have hcz57_9 : wr.cell? ⟨gb121, 9, none⟩ = some (.slice A0_9 l0_9.length c0_9) := (blk_cell BK121.out 9).trans rfl
        have hcz57_10 : wr.cell? ⟨gb121, 10, none⟩ = some (.slice A0_10 l0_10.length c0_10) := (blk_cell BK121.out 10).trans rfl
        have hcz57_11 : wr.cell? ⟨gb121, 11, none⟩ = some (.slice A0_11 l0_11.length c0_11) := (blk_cell BK121.out 11).trans rfl
        have hfz57_0 := blk_frozen BK121.out 0
        have hfz57_1 := blk_frozen BK121.out 1
        have hfz57_2 := blk_frozen BK121.out 2
        have hfz57_3 := blk_frozen BK121.out 3
        have hfz57_4 := blk_frozen BK121.out 4
        have hfz57_5 := blk_frozen BK121.out 5
        have hfz57_6 := blk_frozen BK121.out 6
        have hfz57_7 := blk_frozen BK121.out 7
        have hfz57_8 := blk_frozen BK121.out 8
        have hfz57_9 := blk_frozen BK121.out 9
        have hfz57_10 := blk_frozen BK121.out 10
        have hfz57_11 := blk_frozen BK121.out 11
        have p150 : 0 ≤ (x83_3 : Int) := of_decide_eq_true (by first | (with_reducible assumption) | assumption)
        have q150 : x83_3 < (l0_8.length : Int) := of_decide_eq_true (by first | (with_reducible assumption) | assumption)
        obtain ⟨ad150, e150, hx150_0⟩ := Kd.at_string HR0_8.out x83_3 p150 q150
        cases e150
        replace hx150_0 := (HB.out.cell (World.block_lt_of_cell? w _ hx150_0)).trans hx150_0
        replace p150 := eq_true p150
        replace q150 := eq_true q150
        go_wp2_with (first | ((with_reducible refine gate_callee (f := 70) rfl ?_); refine goesL_ (some 92) rfl rfl Try.func70 (by kernel_rfl) rfl #[.string (rdOf ByteArray.empty l0_8 x83_3)] rfl (by (try simp only [List.map_toArray, List.map_cons, List.map_nil]); first | done | rfl | (simp only [List.length_drop, List.length_take]; rfl)) ?_; (with_reducible refine (tattlerref03_Text.calls (rdOf ByteArray.empty l0_8 x83_3) t151 _ A55.out).mono ?_); rintro e w58 ⟨rfl, hb⟩; refine ⟨_, rfl, ?_⟩; have n0_ := Aside0.mk (BRow.R_below (by (with_reducible repeat (first | apply BRow.rA | apply BRow.rN | apply BRow.rD)); exact HO_3.out) hb); have n1_ := Aside0.mk (blk_below (g := gb121) (o := .cells #[.int .u8 a0_0, .int .u8 a0_1, .int .u8 a0_2, .int .u32 a0_3, .int .u8 a0_4, .int .u8 a0_5, .bool a0_6, .slice A0_7 l0_7.length c0_7, .slice (some ad150) l0_8.length c0_8, .slice A0_9 l0_9.length c0_9, .slice A0_10 l0_10.length c0_10, .slice A0_11 l0_11.length c0_11] 29 (0, 0)) (by (with_reducible repeat (first | refine bN ?_ _ | refine bD ?_ | refine bA ?_ _)); exact BK121.out) hb); have n2_ := Aside0.mk (below_step (by repeat (first | (with_reducible first | exact HB.out | apply qA | apply qN | apply qD | refine below_set ?_ GE121.out) | exact HB.out)) hb); clear HO_3; clear BK121; clear HB; have HO_3 := n0_; have BK121 := n1_; have HB := n2_; clear n0_ n1_ n2_; (try clear hb); (try clear hb2); (try clear hk); (try clear hi)) | (at_builtin; refine BRow.append_str (w0 := w) w.heap.size rfl (.tmp 86) _ 63 9 5 rfl Try.underlying63 Try.underlying9 info5 u3 x3_3 t151 rfl rfl ?aO ?aB ?aS ?aL ?_; (case aB => exact (by repeat (first | (with_reducible first | exact HB.out | apply qA | apply qN | apply qD | refine below_set ?_ GE121.out) | exact HB.out))); (case aO => exact (BRow.own_of_R (by (with_reducible repeat (first | apply BRow.rA | apply BRow.rN | apply BRow.rD)); exact HO_3.out))); (case aS => exact (below_size (by repeat (first | (with_reducible first | exact HB.out | apply qA | apply qN | apply qD | refine below_set ?_ GE121.out) | exact HB.out)))); (case aL => have := LMc56.out; omega); intro v153 w59 ho0 hb hg; have ho := BRow.R_of_own (ok := fun _ => True) ho0 (fun _ _ => trivial); clear ho0; have hat := True.intro; rw [← Ny152.out] at ho; change BRow.R 5 w59 w.heap.size (fun _ => True) v153 y152 at ho; have n0_ := Aside0.mk (blk_grown (g := gb121) (o := .cells #[.int .u8 a0_0, .int .u8 a0_1, .int .u8 a0_2, .int .u32 a0_3, .int .u8 a0_4, .int .u8 a0_5, .bool a0_6, .slice A0_7 l0_7.length c0_7, .slice (some ad150) l0_8.length c0_8, .slice A0_9 l0_9.length c0_9, .slice A0_10 l0_10.length c0_10, .slice A0_11 l0_11.length c0_11] 29 (0, 0)) (by (with_reducible repeat (first | refine bN ?_ _ | refine bD ?_ | refine bA ?_ _)); exact BK121.out) hg (BRow.R_ne HO_3.out BK121.out (by decide))); have n1_ := Aside0.mk (hb); have n2_ := Aside0.mk (ho); clear BK121; clear HB; clear HO_3; have BK121 := n0_; have HB := n1_; have HO154 := n2_; clear n0_ n1_ n2_; clear ho hb hg hat))
        go_roundg k3
        case measure => have := HJ7.out; have := HK2.out; have := HK3.out; omega
        case rel => exact ⟨(y152), (wrap64 (x83_3 + 1)), (by first | rfl | (simp; done) | (simp [*]; done)), H', ⟨by have := HJ7.out; have := HK2.out; have := HK3.out; omega⟩, ⟨by (with_reducible repeat (first | apply BRow.rA | apply BRow.rN | apply BRow.rD)); exact HO154.out⟩, ⟨by (with_reducible repeat (first | refine bN ?_ _ | refine bD ?_ | refine bA ?_ _)); exact BK121.out⟩, ⟨by repeat (first | (with_reducible first | exact HB.out | apply qA | apply qN | apply qD | refine below_set ?_ GE121.out) | exact HB.out)⟩⟩
       rw [if_neg c52] at H
       have c52b0 : decide (x83_3 < (l0_8.length : Int)) = false := decide_eq_false c52
       clear c52
       replace H := Option.bind_eq_some_iff.mp H
       obtain ⟨t155, A600, H⟩ := H
       replace H : (if x3_3.length + t155.size < 140737488355328 then (tattlerref22_Body.l2 k3 (x3_3 ++ bytesOf t155) (l0_9.length : Int) 0 a0_0 a0_1 a0_2 a0_3 a0_4 a0_5 a0_6 l0_7 l0_8 l0_9 l0_10 l0_11) else (none)) = some r := H
       have A60 := Aside0.mk A600
       clear A600
       by_cases c61 : x3_3.length + t155.size < 140737488355328
       rotate_left
       ·
        rw [if_neg c61] at H
        exact absurd H (by simp)
       rw [if_pos c61] at H
       have LMc61 := Aside0.mk c61
       clear c61
       obtain ⟨y156, hy156⟩ : ∃ y_ : List Int, y_ = (x3_3 ++ bytesOf t155) := ⟨_, rfl⟩
       replace H : (tattlerref22_Body.l2 k3 y156 (l0_9.length : Int) 0 a0_0 a0_1 a0_2 a0_3 a0_4 a0_5 a0_6 l0_7 l0_8 l0_9 l0_10 l0_11) = some r := by first | (rw [hy156]; with_reducible exact H) | (have H2_ := (Option.bind_some _ _).symm.trans H; rw [hy156]; with_reducible exact H2_) | (have H2_ := (Option.bind_some _ _).symm.trans H; with_reducible exact H2_) | with_reducible exact H | (rw [hy156]; exact H) | exact H
       have Ny156 := Aside0.mk hy156
       clear hy156
       have H' := Aside0.mk H
       clear H
       have hcz62_0 : wr.cell? ⟨gb121, 0, none⟩ = some (.int .u8 a0_0) := (blk_cell BK121.out 0).trans rfl
       have hcz62_1 : wr.cell? ⟨gb121, 1, none⟩ = some (.int .u8 a0_1) := (blk_cell BK121.out 1).trans rfl
       have hcz62_2 : wr.cell? ⟨gb121, 2, none⟩ = some (.int .u8 a0_2) := (blk_cell BK121.out 2).trans rfl
       have hcz62_3 : wr.cell? ⟨gb121, 3, none⟩ = some (.int .u32 a0_3) := (blk_cell BK121.out 3).trans rfl
       have hcz62_4 : wr.cell? ⟨gb121, 4, none⟩ = some (.int .u8 a0_4) := (blk_cell BK121.out 4).trans rfl
       have hcz62_5 : wr.cell? ⟨gb121, 5, none⟩ = some (.int .u8 a0_5) := (blk_cell BK121.out 5).trans rfl
       have hcz62_6 : wr.cell? ⟨gb121, 6, none⟩ = some (.bool a0_6) := (blk_cell BK121.out 6).trans rfl
       have hcz62_7 : wr.cell? ⟨gb121, 7, none⟩ = some (.slice A0_7 l0_7.length c0_7) := (blk_cell BK121.out 7).trans rfl
       have hcz62_8 : wr.cell? ⟨gb121, 8, none⟩ = some (.slice A0_8 l0_8.length c0_8) := (blk_cell BK121.out 8).trans rfl
       have hcz62_9 : wr.cell? ⟨gb121, 9, none⟩ = some (.slice A0_9 l0_9.length c0_9) := (blk_cell BK121.out 9).trans rfl
       have hcz62_10 : wr.cell? ⟨gb121, 10, none⟩ = some (.slice A0_10 l0_10.length c0_10) := (blk_cell BK121.out 10).trans rfl
       have hcz62_11 : wr.cell? ⟨gb121, 11, none⟩ = some (.slice A0_11 l0_11.length c0_11) := (blk_cell BK121.out 11).trans rfl
       have hfz62_0 := blk_frozen BK121.out 0
       have hfz62_1 := blk_frozen BK121.out 1
       have hfz62_2 := blk_frozen BK121.out 2
       have hfz62_3 := blk_frozen BK121.out 3
       have hfz62_4 := blk_frozen BK121.out 4
       have hfz62_5 := blk_frozen BK121.out 5
       have hfz62_6 := blk_frozen BK121.out 6
       have hfz62_7 := blk_frozen BK121.out 7
       have hfz62_8 := blk_frozen BK121.out 8
       have hfz62_9 := blk_frozen BK121.out 9
       have hfz62_10 := blk_frozen BK121.out 10
       have hfz62_11 := blk_frozen BK121.out 11
       go_wp2_with (first | ((with_reducible refine gate_callee (f := 69) rfl ?_); refine goesL_ (some 100) rfl rfl Try.func69 (by kernel_rfl) rfl #[.int .u64 (IntKind.u64.wrap ((l0_9.length : Int)))] rfl (by (try simp only [List.map_toArray, List.map_cons, List.map_nil]); first | done | rfl | (simp only [List.length_drop, List.length_take]; rfl)) ?_; (with_reducible refine (tattlerref22_put.calls (IntKind.u64.wrap ((l0_9.length : Int))) t155 _ A60.out).mono ?_); rintro e w63 ⟨rfl, hb⟩; refine ⟨_, rfl, ?_⟩; have n0_ := Aside0.mk (BRow.R_below (by (with_reducible repeat (first | apply BRow.rA | apply BRow.rN | apply BRow.rD)); exact HO_3.out) hb); have n1_ := Aside0.mk (blk_below (g := gb121) (o := .cells #[.int .u8 a0_0, .int .u8 a0_1, .int .u8 a0_2, .int .u32 a0_3, .int .u8 a0_4, .int .u8 a0_5, .bool a0_6, .slice A0_7 l0_7.length c0_7, .slice A0_8 l0_8.length c0_8, .slice A0_9 l0_9.length c0_9, .slice A0_10 l0_10.length c0_10, .slice A0_11 l0_11.length c0_11] 29 (0, 0)) (by (with_reducible repeat (first | refine bN ?_ _ | refine bD ?_ | refine bA ?_ _)); exact BK121.out) hb); have n2_ := Aside0.mk (below_step (by repeat (first | (with_reducible first | exact HB.out | apply qA | apply qN | apply qD | refine below_set ?_ GE121.out) | exact HB.out)) hb); clear HO_3; clear BK121; clear HB; have HO_3 := n0_; have BK121 := n1_; have HB := n2_; clear n0_ n1_ n2_; (try clear hb); (try clear hb2); (try clear hk); (try clear hi)) | (at_builtin; refine BRow.append_str (w0 := w) w.heap.size rfl (.tmp 95) _ 63 9 5 rfl Try.underlying63 Try.underlying9 info5 u3 x3_3 t155 rfl rfl ?aO ?aB ?aS ?aL ?_; (case aB => exact (by repeat (first | (with_reducible first | exact HB.out | apply qA | apply qN | apply qD | refine below_set ?_ GE121.out) | exact HB.out))); (case aO => exact (BRow.own_of_R (by (with_reducible repeat (first | apply BRow.rA | apply BRow.rN | apply BRow.rD)); exact HO_3.out))); (case aS => exact (below_size (by repeat (first | (with_reducible first | exact HB.out | apply qA | apply qN | apply qD | refine below_set ?_ GE121.out) | exact HB.out)))); (case aL => have := LMc61.out; omega); intro v157 w64 ho0 hb hg; have ho := BRow.R_of_own (ok := fun _ => True) ho0 (fun _ _ => trivial); clear ho0; have hat := True.intro; rw [← Ny156.out] at ho; change BRow.R 5 w64 w.heap.size (fun _ => True) v157 y156 at ho; have n0_ := Aside0.mk (blk_grown (g := gb121) (o := .cells #[.int .u8 a0_0, .int .u8 a0_1, .int .u8 a0_2, .int .u32 a0_3, .int .u8 a0_4, .int .u8 a0_5, .bool a0_6, .slice A0_7 l0_7.length c0_7, .slice A0_8 l0_8.length c0_8, .slice A0_9 l0_9.length c0_9, .slice A0_10 l0_10.length c0_10, .slice A0_11 l0_11.length c0_11] 29 (0, 0)) (by (with_reducible repeat (first | refine bN ?_ _ | refine bD ?_ | refine bA ?_ _)); exact BK121.out) hg (BRow.R_ne HO_3.out BK121.out (by decide))); have n1_ := Aside0.mk (hb); have n2_ := Aside0.mk (ho); clear BK121; clear HB; clear HO_3; have BK121 := n0_; have HB := n1_; have HO158 := n2_; clear n0_ n1_ n2_; clear ho hb hg hat; have hcz65_0 : w64.cell? ⟨gb121, 0, none⟩ = some (.int .u8 a0_0) := (blk_cell BK121.out 0).trans rfl; have hcz65_1 : w64.cell? ⟨gb121, 1, none⟩ = some (.int .u8 a0_1) := (blk_cell BK121.out 1).trans rfl; have hcz65_2 : w64.cell? ⟨gb121, 2, none⟩ = some (.int .u8 a0_2) := (blk_cell BK121.out 2).trans rfl; have hcz65_3 : w64.cell? ⟨gb121, 3, none⟩ = some (.int .u32 a0_3) := (blk_cell BK121.out 3).trans rfl; have hcz65_4 : w64.cell? ⟨gb121, 4, none⟩ = some (.int .u8 a0_4) := (blk_cell BK121.out 4).trans rfl; have hcz65_5 : w64.cell? ⟨gb121, 5, none⟩ = some (.int .u8 a0_5) := (blk_cell BK121.out 5).trans rfl; have hcz65_6 : w64.cell? ⟨gb121, 6, none⟩ = some (.bool a0_6) := (blk_cell BK121.out 6).trans rfl; have hcz65_7 : w64.cell? ⟨gb121, 7, none⟩ = some (.slice A0_7 l0_7.length c0_7) := (blk_cell BK121.out 7).trans rfl; have hcz65_8 : w64.cell? ⟨gb121, 8, none⟩ = some (.slice A0_8 l0_8.length c0_8) := (blk_cell BK121.out 8).trans rfl; have hcz65_9 : w64.cell? ⟨gb121, 9, none⟩ = some (.slice A0_9 l0_9.length c0_9) := (blk_cell BK121.out 9).trans rfl; have hcz65_10 : w64.cell? ⟨gb121, 10, none⟩ = some (.slice A0_10 l0_10.length c0_10) := (blk_cell BK121.out 10).trans rfl; have hcz65_11 : w64.cell? ⟨gb121, 11, none⟩ = some (.slice A0_11 l0_11.length c0_11) := (blk_cell BK121.out 11).trans rfl; have hfz65_0 := blk_frozen BK121.out 0; have hfz65_1 := blk_frozen BK121.out 1; have hfz65_2 := blk_frozen BK121.out 2; have hfz65_3 := blk_frozen BK121.out 3; have hfz65_4 := blk_frozen BK121.out 4; have hfz65_5 := blk_frozen BK121.out 5; have hfz65_6 := blk_frozen BK121.out 6; have hfz65_7 := blk_frozen BK121.out 7; have hfz65_8 := blk_frozen BK121.out 8; have hfz65_9 := blk_frozen BK121.out 9; have hfz65_10 := blk_frozen BK121.out 10; have hfz65_11 := blk_frozen BK121.out 11))
       go_loopg [3, 105] k3 (fun kq v3 v105 w' => ∃ (x3_4 : List Int) (x105_4 : Int), v105 = .int .i64 x105_4 ∧ Aside0 (tattlerref22_Body.l2 kq x3_4 (l0_9.length : Int) x105_4 a0_0 a0_1 a0_2 a0_3 a0_4 a0_5 a0_6 l0_7 l0_8 l0_9 l0_10 l0_11 = some r) ∧ Aside0 (kq ≤ k3) ∧ Aside0 (BRow.R 5 w' w.heap.size (fun _ => True) v3 x3_4) ∧ Aside0 (w'.heap[gb121]? = some (.cells #[.int .u8 a0_0, .int .u8 a0_1, .int .u8 a0_2, .int .u32 a0_3, .int .u8 a0_4, .int .u8 a0_5, .bool a0_6, (.slice A0_7 l0_7.length c0_7), (.slice A0_8 l0_8.length c0_8), (.slice A0_9 l0_9.length c0_9), (.slice A0_10 l0_10.length c0_10), (.slice A0_11 l0_11.length c0_11)] 29 (0, 0))) ∧ Aside0 (Below w.heap.size w w'))
       case atStart => exact ⟨(y156), (0), (by first | rfl | (simp; done) | (simp [*]; done)), H', ⟨Nat.le_refl _⟩, ⟨by (with_reducible repeat (first | apply BRow.rA | apply BRow.rN | apply BRow.rD)); exact HO158.out⟩, ⟨by (with_reducible repeat (first | refine bN ?_ _ | refine bD ?_ | refine bA ?_ _)); exact BK121.out⟩, ⟨by repeat (first | (with_reducible first | exact HB.out | apply qA | apply qN | apply qD | refine below_set ?_ GE121.out) | exact HB.out)⟩⟩
       case round =>
        clear H'
        try clear c1
        try clear p1
        try clear q1
        try clear hx1
        try clear c2
        try clear p2
        try clear c3
        try clear c4
        try clear c4b0
        try clear c4b1
        try clear c4b2
        try clear c5
        try clear c6
        try clear c6b0
        try clear c6b1
        try clear c6b2
        try clear p6
        try clear c7
        try clear p13
        try clear q13
        try clear hx13
        try clear p15
        try clear q15
        try clear hx15
        try clear c16
        try clear c17
        try clear c19
        try clear c22
        try clear c26
        try clear c27
        try clear c27b0
        try clear c28
        try clear c28b0
        try clear c29
        try clear c29b0
        try clear c32
        try clear c32b0
        try clear c32b1
        try clear c32b2
        try clear c34
        try clear c34b0
        try clear c34b1
        try clear c34b2
        try clear c35
        try clear c38
        try clear c47
        try clear c52
        try clear c52b0
        try clear c53
        try clear c53b0
        try clear c54
        try clear c54b0
        try clear c56
        try clear c61
        try clear p64
        try clear hcz15_0
        try clear hcz15_1
        try clear hcz15_10
        try clear hcz15_11
        try clear hcz15_2
        try clear hcz15_3
        try clear hcz15_4
        try clear hcz15_5
        try clear hcz15_6
        try clear hcz15_7
        try clear hcz15_8
        try clear hcz15_9
        try clear hcz23_0
        try clear hcz23_1
        try clear hcz23_10
        try clear hcz23_11
        try clear hcz23_2
        try clear hcz23_3
        try clear hcz23_4
        try clear hcz23_5
        try clear hcz23_6
        try clear hcz23_7
        try clear hcz23_8
        try clear hcz23_9
        try clear hcz26_0
        try clear hcz26_1
        try clear hcz26_10
        try clear hcz26_11
        try clear hcz26_2
        try clear hcz26_3
        try clear hcz26_4
        try clear hcz26_5
        try clear hcz26_6
        try clear hcz26_7
        try clear hcz26_8
        try clear hcz26_9
        try clear hcz36_0
        try clear hcz36_1
        try clear hcz36_10
        try clear hcz36_11
        try clear hcz36_2
        try clear hcz36_3
        try clear hcz36_4
        try clear hcz36_5
        try clear hcz36_6
        try clear hcz36_7
        try clear hcz36_8
        try clear hcz36_9
        try clear hcz39_0
        try clear hcz39_1
        try clear hcz39_2
        try clear hcz48_0
        try clear hcz48_1
        try clear hcz48_10
        try clear hcz48_11
        try clear hcz48_2
        try clear hcz48_3
        try clear hcz48_4
        try clear hcz48_5
        try clear hcz48_6
        try clear hcz48_7
        try clear hcz48_8
        try clear hcz48_9
        try clear hcz51_0
        try clear hcz51_1
        try clear hcz51_10
        try clear hcz51_11
        try clear hcz51_2
        try clear hcz51_3
        try clear hcz51_4
        try clear hcz51_5
        try clear hcz51_6
        try clear hcz51_7
        try clear hcz51_8
        try clear hcz51_9
        try clear hcz57_0
        try clear hcz57_1
        try clear hcz57_10
        try clear hcz57_11
        try clear hcz57_2
        try clear hcz57_3
        try clear hcz57_4
        try clear hcz57_5
        try clear hcz57_6
        try clear hcz57_7
        try clear hcz57_8
        try clear hcz57_9
        try clear hcz62_0
        try clear hcz62_1
        try clear hcz62_10
        try clear hcz62_11
        try clear hcz62_2
        try clear hcz62_3
        try clear hcz62_4
        try clear hcz62_5
        try clear hcz62_6
        try clear hcz62_7
        try clear hcz62_8
        try clear hcz62_9
        try clear hcz65_0
        try clear hcz65_1
        try clear hcz65_10
        try clear hcz65_11
        try clear hcz65_2
        try clear hcz65_3
        try clear hcz65_4
        try clear hcz65_5
        try clear hcz65_6
        try clear hcz65_7
        try clear hcz65_8
        try clear hcz65_9
        try clear hfz15_0
        try clear hfz15_1
        try clear hfz15_10
        try clear hfz15_11
        try clear hfz15_2
        try clear hfz15_3
        try clear hfz15_4
        try clear hfz15_5
        try clear hfz15_6
        try clear hfz15_7
        try clear hfz15_8
        try clear hfz15_9
        try clear hfz23_0
        try clear hfz23_1
        try clear hfz23_10
        try clear hfz23_11
        try clear hfz23_2
        try clear hfz23_3
        try clear hfz23_4
        try clear hfz23_5
        try clear hfz23_6
        try clear hfz23_7
        try clear hfz23_8
        try clear hfz23_9
        try clear hfz26_0
        try clear hfz26_1
        try clear hfz26_10
        try clear hfz26_11
        try clear hfz26_2
        try clear hfz26_3
        try clear hfz26_4
        try clear hfz26_5
        try clear hfz26_6
        try clear hfz26_7
        try clear hfz26_8
        try clear hfz26_9
        try clear hfz36_0
        try clear hfz36_1
        try clear hfz36_10
        try clear hfz36_11
        try clear hfz36_2
        try clear hfz36_3
        try clear hfz36_4
        try clear hfz36_5
        try clear hfz36_6
        try clear hfz36_7
        try clear hfz36_8
        try clear hfz36_9
        try clear hfz39_0
        try clear hfz39_1
        try clear hfz39_2
        try clear hfz48_0
        try clear hfz48_1
        try clear hfz48_10
        try clear hfz48_11
        try clear hfz48_2
        try clear hfz48_3
        try clear hfz48_4
        try clear hfz48_5
        try clear hfz48_6
        try clear hfz48_7
        try clear hfz48_8
        try clear hfz48_9
        try clear hfz51_0
        try clear hfz51_1
        try clear hfz51_10
        try clear hfz51_11
        try clear hfz51_2
        try clear hfz51_3
        try clear hfz51_4
        try clear hfz51_5
        try clear hfz51_6
        try clear hfz51_7
        try clear hfz51_8
        try clear hfz51_9
        try clear hfz57_0
        try clear hfz57_1
        try clear hfz57_10
        try clear hfz57_11
        try clear hfz57_2
        try clear hfz57_3
        try clear hfz57_4
        try clear hfz57_5
        try clear hfz57_6
        try clear hfz57_7
        try clear hfz57_8
        try clear hfz57_9
        try clear hfz62_0
        try clear hfz62_1
        try clear hfz62_10
        try clear hfz62_11
        try clear hfz62_2
        try clear hfz62_3
        try clear hfz62_4
        try clear hfz62_5
        try clear hfz62_6
        try clear hfz62_7
        try clear hfz62_8
        try clear hfz62_9
        try clear hfz65_0
        try clear hfz65_1
        try clear hfz65_10
        try clear hfz65_11
        try clear hfz65_2
        try clear hfz65_3
        try clear hfz65_4
        try clear hfz65_5
        try clear hfz65_6
        try clear hfz65_7
        try clear hfz65_8
        try clear hfz65_9
        try clear hx138_0
        try clear hx138_1
        try clear hx138_2
        try clear hx150_0
        try clear p1
        try clear p13
        try clear p138
        try clear p150
        try clear p2
        try clear p6
        try clear q1
        try clear q13
        try clear q138
        try clear q150
        obtain ⟨x3_4, x105_4, rfl, HA, HK4, HO_3, BK121, HB⟩ := hrel
        cases gk with
        | zero => exact absurd HA.out (by simp [tattlerref22_Body.l2])
        | succ k4 =>
         have H := HA.out
         clear HA
         simp only [tattlerref22_Body.l2] at H
         by_cases c66 : x105_4 < (l0_9.length : Int)
         ·
          rw [if_pos c66] at H
          have c66b0 : decide (x105_4 < (l0_9.length : Int)) = true := decide_eq_true c66
          clear c66
          by_cases c67 : 0 ≤ x105_4
          rotate_left
          ·
           rw [if_neg c67] at H
           exact absurd H (by simp)
          rw [if_pos c67] at H
          have c67b0 : decide (0 ≤ x105_4) = true := decide_eq_true c67
          clear c67
          by_cases c68 : x105_4 < (l0_9.length : Int)
          rotate_left
          ·
           rw [if_neg c68] at H
           exact absurd H (by simp)
          rw [if_pos c68] at H
          have c68b0 : decide (x105_4 < (l0_9.length : Int)) = true := decide_eq_true c68
          clear c68
          replace H := Option.bind_eq_some_iff.mp H
          obtain ⟨⟨t160, t161⟩, A690, H⟩ := H
          replace H : (if x3_4.length + t160.size < 140737488355328 then (tattlerref22_Body.l2 k4 (x3_4 ++ bytesOf t160) (l0_9.length : Int) (wrap64 (x105_4 + 1)) a0_0 a0_1 a0_2 a0_3 a0_4 a0_5 a0_6 l0_7 l0_8 l0_9 l0_10 l0_11) else (none)) = some r := H
          have A69 := Aside0.mk A690
          clear A690
          by_cases c70 : x3_4.length + t160.size < 140737488355328
          rotate_left
          ·
           rw [if_neg c70] at H
           exact absurd H (by simp)
          rw [if_pos c70] at H
          have LMc70 := Aside0.mk c70
          clear c70
          obtain ⟨y162, hy162⟩ : ∃ y_ : List Int, y_ = (x3_4 ++ bytesOf t160) := ⟨_, rfl⟩
          replace H : (tattlerref22_Body.l2 k4 y162 (l0_9.length : Int) (wrap64 (x105_4 + 1)) a0_0 a0_1 a0_2 a0_3 a0_4 a0_5 a0_6 l0_7 l0_8 l0_9 l0_10 l0_11) = some r := by first | (rw [hy162]; with_reducible exact H) | (have H2_ := (Option.bind_some _ _).symm.trans H; rw [hy162]; with_reducible exact H2_) | (have H2_ := (Option.bind_some _ _).symm.trans H; with_reducible exact H2_) | with_reducible exact H | (rw [hy162]; exact H) | exact H
          have Ny162 := Aside0.mk hy162
          clear hy162
          have H' := Aside0.mk H
          clear H
          have hcz71_0 : wr.cell? ⟨gb121, 0, none⟩ = some (.int .u8 a0_0) := (blk_cell BK121.out 0).trans rfl
          have hcz71_1 : wr.cell? ⟨gb121, 1, none⟩ = some (.int .u8 a0_1) := (blk_cell BK121.out 1).trans rfl
          have hcz71_2 : wr.cell? ⟨gb121, 2, none⟩ = some (.int .u8 a0_2) := (blk_cell BK121.out 2).trans rfl
          have hcz71_3 : wr.cell? ⟨gb121, 3, none⟩ = some (.int .u32 a0_3) := (blk_cell BK121.out 3).trans rfl
          have hcz71_4 : wr.cell? ⟨gb121, 4, none⟩ = some (.int .u8 a0_4) := (blk_cell BK121.out 4).trans rfl
          have hcz71_5 : wr.cell? ⟨gb121, 5, none⟩ = some (.int .u8 a0_5) := (blk_cell BK121.out 5).trans rfl
          have hcz71_6 : wr.cell? ⟨gb121, 6, none⟩ = some (.bool a0_6) := (blk_cell BK121.out 6).trans rfl
          have hcz71_7 : wr.cell? ⟨gb121, 7, none⟩ = some (.slice A0_7 l0_7.length c0_7) := (blk_cell BK121.out 7).trans rfl
          have hcz71_8 : wr.cell? ⟨gb121, 8, none⟩ = some (.slice A0_8 l0_8.length c0_8) := (blk_cell BK121.out 8).trans rfl
          have hcz71_9 : wr.cell? ⟨gb121, 9, none⟩ = some (.slice A0_9 l0_9.length c0_9) := (blk_cell BK121.out 9).trans rfl
          have hcz71_10 : wr.cell? ⟨gb121, 10, none⟩ = some (.slice A0_10 l0_10.length c0_10) := (blk_cell BK121.out 10).trans rfl
          have hcz71_11 : wr.cell? ⟨gb121, 11, none⟩ = some (.slice A0_11 l0_11.length c0_11) := (blk_cell BK121.out 11).trans rfl
          have hfz71_0 := blk_frozen BK121.out 0
          have hfz71_1 := blk_frozen BK121.out 1
          have hfz71_2 := blk_frozen BK121.out 2
          have hfz71_3 := blk_frozen BK121.out 3
          have hfz71_4 := blk_frozen BK121.out 4
          have hfz71_5 := blk_frozen BK121.out 5
          have hfz71_6 := blk_frozen BK121.out 6
          have hfz71_7 := blk_frozen BK121.out 7
          have hfz71_8 := blk_frozen BK121.out 8
          have hfz71_9 := blk_frozen BK121.out 9
          have hfz71_10 := blk_frozen BK121.out 10
          have hfz71_11 := blk_frozen BK121.out 11
          have p159 : 0 ≤ (x105_4 : Int) := of_decide_eq_true (by first | (with_reducible assumption) | assumption)
          have q159 : x105_4 < (l0_9.length : Int) := of_decide_eq_true (by first | (with_reducible assumption) | assumption)
          obtain ⟨ad159, e159, hx159_0, hx159_1, hx159_2, hx159_3, hx159_4, hx159_5, hx159_6, hx159_7⟩ := at_T54 HR0_9.out x105_4 p159 q159
          cases e159
          replace hx159_0 := (HB.out.cell (World.block_lt_of_cell? w _ hx159_0)).trans hx159_0
          replace hx159_1 := (HB.out.cell (World.block_lt_of_cell? w _ hx159_1)).trans hx159_1
          replace hx159_2 := (HB.out.cell (World.block_lt_of_cell? w _ hx159_2)).trans hx159_2
          replace hx159_3 := (HB.out.cell (World.block_lt_of_cell? w _ hx159_3)).trans hx159_3
          replace hx159_4 := (HB.out.cell (World.block_lt_of_cell? w _ hx159_4)).trans hx159_4
          replace hx159_5 := (HB.out.cell (World.block_lt_of_cell? w _ hx159_5)).trans hx159_5
          replace hx159_6 := (HB.out.cell (World.block_lt_of_cell? w _ hx159_6)).trans hx159_6
          replace hx159_7 := (HB.out.cell (World.block_lt_of_cell? w _ hx159_7)).trans hx159_7
          replace p159 := eq_true p159
          replace q159 := eq_true q159
          go_wp2_with (first | ((with_reducible refine gate_callee (f := 71) rfl ?_); refine goesL_ (some 114) rfl rfl Try.func71 (by kernel_rfl) rfl #[.agg #[.string ((rd_T54 l0_9 x105_4).f0), .int .u64 ((rd_T54 l0_9 x105_4).f1.f0), .int .u32 ((rd_T54 l0_9 x105_4).f1.f1), .int .u8 ((rd_T54 l0_9 x105_4).f1.f2), .int .u8 ((rd_T54 l0_9 x105_4).f2), .int .u32 ((rd_T54 l0_9 x105_4).f3), .int .u64 ((rd_T54 l0_9 x105_4).f4), .string ((rd_T54 l0_9 x105_4).f5)]] rfl (by (try simp only [List.map_toArray, List.map_cons, List.map_nil]); first | done | rfl | (simp only [List.length_drop, List.length_take]; rfl)) ?_; (with_reducible refine (tattlerref06_Put.calls ((rd_T54 l0_9 x105_4).f0) ((rd_T54 l0_9 x105_4).f1.f0) ((rd_T54 l0_9 x105_4).f1.f1) ((rd_T54 l0_9 x105_4).f1.f2) ((rd_T54 l0_9 x105_4).f2) ((rd_T54 l0_9 x105_4).f3) ((rd_T54 l0_9 x105_4).f4) ((rd_T54 l0_9 x105_4).f5) t160 t161 _ A69.out).mono ?_); rintro e w72 ⟨rfl, hb⟩; refine ⟨_, rfl, ?_⟩; have n0_ := Aside0.mk (BRow.R_below (by (with_reducible repeat (first | apply BRow.rA | apply BRow.rN | apply BRow.rD)); exact HO_3.out) hb); have n1_ := Aside0.mk (blk_below (g := gb121) (o := .cells #[.int .u8 a0_0, .int .u8 a0_1, .int .u8 a0_2, .int .u32 a0_3, .int .u8 a0_4, .int .u8 a0_5, .bool a0_6, .slice A0_7 l0_7.length c0_7, .slice A0_8 l0_8.length c0_8, .slice (some ad159) l0_9.length c0_9, .slice A0_10 l0_10.length c0_10, .slice A0_11 l0_11.length c0_11] 29 (0, 0)) (by (with_reducible repeat (first | refine bN ?_ _ | refine bD ?_ | refine bA ?_ _)); exact BK121.out) hb); have n2_ := Aside0.mk (below_step (by repeat (first | (with_reducible first | exact HB.out | apply qA | apply qN | apply qD | refine below_set ?_ GE121.out) | exact HB.out)) hb); clear HO_3; clear BK121; clear HB; have HO_3 := n0_; have BK121 := n1_; have HB := n2_; clear n0_ n1_ n2_; (try clear hb); (try clear hb2); (try clear hk); (try clear hi)) | (at_builtin; refine BRow.append_str (w0 := w) w.heap.size rfl (.tmp 117) _ 63 9 5 rfl Try.underlying63 Try.underlying9 info5 u3 x3_4 t160 rfl rfl ?aO ?aB ?aS ?aL ?_; (case aB => exact (by repeat (first | (with_reducible first | exact HB.out | apply qA | apply qN | apply qD | refine below_set ?_ GE121.out) | exact HB.out))); (case aO => exact (BRow.own_of_R (by (with_reducible repeat (first | apply BRow.rA | apply BRow.rN | apply BRow.rD)); exact HO_3.out))); (case aS => exact (below_size (by repeat (first | (with_reducible first | exact HB.out | apply qA | apply qN | apply qD | refine below_set ?_ GE121.out) | exact HB.out)))); (case aL => have := LMc70.out; omega); intro v163 w73 ho0 hb hg; have ho := BRow.R_of_own (ok := fun _ => True) ho0 (fun _ _ => trivial); clear ho0; have hat := True.intro; rw [← Ny162.out] at ho; change BRow.R 5 w73 w.heap.size (fun _ => True) v163 y162 at ho; have n0_ := Aside0.mk (blk_grown (g := gb121) (o := .cells #[.int .u8 a0_0, .int .u8 a0_1, .int .u8 a0_2, .int .u32 a0_3, .int .u8 a0_4, .int .u8 a0_5, .bool a0_6, .slice A0_7 l0_7.length c0_7, .slice A0_8 l0_8.length c0_8, .slice (some ad159) l0_9.length c0_9, .slice A0_10 l0_10.length c0_10, .slice A0_11 l0_11.length c0_11] 29 (0, 0)) (by (with_reducible repeat (first | refine bN ?_ _ | refine bD ?_ | refine bA ?_ _)); exact BK121.out) hg (BRow.R_ne HO_3.out BK121.out (by decide))); have n1_ := Aside0.mk (hb); have n2_ := Aside0.mk (ho); clear BK121; clear HB; clear HO_3; have BK121 := n0_; have HB := n1_; have HO164 := n2_; clear n0_ n1_ n2_; clear ho hb hg hat))
          go_roundg k4
          case measure => have := HJ7.out; have := HK2.out; have := HK3.out; have := HK4.out; omega
          case rel => exact ⟨(y162), (wrap64 (x105_4 + 1)), (by first | rfl | (simp; done) | (simp [*]; done)), H', ⟨by have := HJ7.out; have := HK2.out; have := HK3.out; have := HK4.out; omega⟩, ⟨by (with_reducible repeat (first | apply BRow.rA | apply BRow.rN | apply BRow.rD)); exact HO164.out⟩, ⟨by (with_reducible repeat (first | refine bN ?_ _ | refine bD ?_ | refine bA ?_ _)); exact BK121.out⟩, ⟨by repeat (first | (with_reducible first | exact HB.out | apply qA | apply qN | apply qD | refine below_set ?_ GE121.out) | exact HB.out)⟩⟩
         rw [if_neg c66] at H
         have c66b0 : decide (x105_4 < (l0_9.length : Int)) = false := decide_eq_false c66
         clear c66
         replace H := Option.bind_eq_some_iff.mp H
         obtain ⟨t165, A740, H⟩ := H
         replace H : (if x3_4.length + t165.size < 140737488355328 then (tattlerref22_Body.l3 k4 (x3_4 ++ bytesOf t165) (l0_10.length : Int) 0 a0_0 a0_1 a0_2 a0_3 a0_4 a0_5 a0_6 l0_7 l0_8 l0_9 l0_10 l0_11) else (none)) = some r := H
         have A74 := Aside0.mk A740
         clear A740
         by_cases c75 : x3_4.length + t165.size < 140737488355328
         rotate_left
         ·
          rw [if_neg c75] at H
          exact absurd H (by simp)
         rw [if_pos c75] at H
         have LMc75 := Aside0.mk c75
         clear c75
         obtain ⟨y166, hy166⟩ : ∃ y_ : List Int, y_ = (x3_4 ++ bytesOf t165) := ⟨_, rfl⟩
         replace H : (tattlerref22_Body.l3 k4 y166 (l0_10.length : Int) 0 a0_0 a0_1 a0_2 a0_3 a0_4 a0_5 a0_6 l0_7 l0_8 l0_9 l0_10 l0_11) = some r := by first | (rw [hy166]; with_reducible exact H) | (have H2_ := (Option.bind_some _ _).symm.trans H; rw [hy166]; with_reducible exact H2_) | (have H2_ := (Option.bind_some _ _).symm.trans H; with_reducible exact H2_) | with_reducible exact H | (rw [hy166]; exact H) | exact H
         have Ny166 := Aside0.mk hy166
         clear hy166
         have H' := Aside0.mk H
         clear H
         have hcz76_0 : wr.cell? ⟨gb121, 0, none⟩ = some (.int .u8 a0_0) := (blk_cell BK121.out 0).trans rfl
         have hcz76_1 : wr.cell? ⟨gb121, 1, none⟩ = some (.int .u8 a0_1) := (blk_cell BK121.out 1).trans rfl
         have hcz76_2 : wr.cell? ⟨gb121, 2, none⟩ = some (.int .u8 a0_2) := (blk_cell BK121.out 2).trans rfl
         have hcz76_3 : wr.cell? ⟨gb121, 3, none⟩ = some (.int .u32 a0_3) := (blk_cell BK121.out 3).trans rfl
         have hcz76_4 : wr.cell? ⟨gb121, 4, none⟩ = some (.int .u8 a0_4) := (blk_cell BK121.out 4).trans rfl
         have hcz76_5 : wr.cell? ⟨gb121, 5, none⟩ = some (.int .u8 a0_5) := (blk_cell BK121.out 5).trans rfl
         have hcz76_6 : wr.cell? ⟨gb121, 6, none⟩ = some (.bool a0_6) := (blk_cell BK121.out 6).trans rfl
         have hcz76_7 : wr.cell? ⟨gb121, 7, none⟩ = some (.slice A0_7 l0_7.length c0_7) := (blk_cell BK121.out 7).trans rfl
         have hcz76_8 : wr.cell? ⟨gb121, 8, none⟩ = some (.slice A0_8 l0_8.length c0_8) := (blk_cell BK121.out 8).trans rfl
         have hcz76_9 : wr.cell? ⟨gb121, 9, none⟩ = some (.slice A0_9 l0_9.length c0_9) := (blk_cell BK121.out 9).trans rfl
         have hcz76_10 : wr.cell? ⟨gb121, 10, none⟩ = some (.slice A0_10 l0_10.length c0_10) := (blk_cell BK121.out 10).trans rfl
         have hcz76_11 : wr.cell? ⟨gb121, 11, none⟩ = some (.slice A0_11 l0_11.length c0_11) := (blk_cell BK121.out 11).trans rfl
         have hfz76_0 := blk_frozen BK121.out 0
         have hfz76_1 := blk_frozen BK121.out 1
         have hfz76_2 := blk_frozen BK121.out 2
         have hfz76_3 := blk_frozen BK121.out 3
         have hfz76_4 := blk_frozen BK121.out 4
         have hfz76_5 := blk_frozen BK121.out 5
         have hfz76_6 := blk_frozen BK121.out 6
         have hfz76_7 := blk_frozen BK121.out 7
         have hfz76_8 := blk_frozen BK121.out 8
         have hfz76_9 := blk_frozen BK121.out 9
         have hfz76_10 := blk_frozen BK121.out 10
         have hfz76_11 := blk_frozen BK121.out 11
         go_wp2_with (first | ((with_reducible refine gate_callee (f := 69) rfl ?_); refine goesL_ (some 126) rfl rfl Try.func69 (by kernel_rfl) rfl #[.int .u64 (IntKind.u64.wrap ((l0_10.length : Int)))] rfl (by (try simp only [List.map_toArray, List.map_cons, List.map_nil]); first | done | rfl | (simp only [List.length_drop, List.length_take]; rfl)) ?_; (with_reducible refine (tattlerref22_put.calls (IntKind.u64.wrap ((l0_10.length : Int))) t165 _ A74.out).mono ?_); rintro e w77 ⟨rfl, hb⟩; refine ⟨_, rfl, ?_⟩; have n0_ := Aside0.mk (BRow.R_below (by (with_reducible repeat (first | apply BRow.rA | apply BRow.rN | apply BRow.rD)); exact HO_3.out) hb); have n1_ := Aside0.mk (blk_below (g := gb121) (o := .cells #[.int .u8 a0_0, .int .u8 a0_1, .int .u8 a0_2, .int .u32 a0_3, .int .u8 a0_4, .int .u8 a0_5, .bool a0_6, .slice A0_7 l0_7.length c0_7, .slice A0_8 l0_8.length c0_8, .slice A0_9 l0_9.length c0_9, .slice A0_10 l0_10.length c0_10, .slice A0_11 l0_11.length c0_11] 29 (0, 0)) (by (with_reducible repeat (first | refine bN ?_ _ | refine bD ?_ | refine bA ?_ _)); exact BK121.out) hb); have n2_ := Aside0.mk (below_step (by repeat (first | (with_reducible first | exact HB.out | apply qA | apply qN | apply qD | refine below_set ?_ GE121.out) | exact HB.out)) hb); clear HO_3; clear BK121; clear HB; have HO_3 := n0_; have BK121 := n1_; have HB := n2_; clear n0_ n1_ n2_; (try clear hb); (try clear hb2); (try clear hk); (try clear hi)) | (at_builtin; refine BRow.append_str (w0 := w) w.heap.size rfl (.tmp 121) _ 63 9 5 rfl Try.underlying63 Try.underlying9 info5 u3 x3_4 t165 rfl rfl ?aO ?aB ?aS ?aL ?_; (case aB => exact (by repeat (first | (with_reducible first | exact HB.out | apply qA | apply qN | apply qD | refine below_set ?_ GE121.out) | exact HB.out))); (case aO => exact (BRow.own_of_R (by (with_reducible repeat (first | apply BRow.rA | apply BRow.rN | apply BRow.rD)); exact HO_3.out))); (case aS => exact (below_size (by repeat (first | (with_reducible first | exact HB.out | apply qA | apply qN | apply qD | refine below_set ?_ GE121.out) | exact HB.out)))); (case aL => have := LMc75.out; omega); intro v167 w78 ho0 hb hg; have ho := BRow.R_of_own (ok := fun _ => True) ho0 (fun _ _ => trivial); clear ho0; have hat := True.intro; rw [← Ny166.out] at ho; change BRow.R 5 w78 w.heap.size (fun _ => True) v167 y166 at ho; have n0_ := Aside0.mk (blk_grown (g := gb121) (o := .cells #[.int .u8 a0_0, .int .u8 a0_1, .int .u8 a0_2, .int .u32 a0_3, .int .u8 a0_4, .int .u8 a0_5, .bool a0_6, .slice A0_7 l0_7.length c0_7, .slice A0_8 l0_8.length c0_8, .slice A0_9 l0_9.length c0_9, .slice A0_10 l0_10.length c0_10, .slice A0_11 l0_11.length c0_11] 29 (0, 0)) (by (with_reducible repeat (first | refine bN ?_ _ | refine bD ?_ | refine bA ?_ _)); exact BK121.out) hg (BRow.R_ne HO_3.out BK121.out (by decide))); have n1_ := Aside0.mk (hb); have n2_ := Aside0.mk (ho); clear BK121; clear HB; clear HO_3; have BK121 := n0_; have HB := n1_; have HO168 := n2_; clear n0_ n1_ n2_; clear ho hb hg hat; have hcz79_0 : w78.cell? ⟨gb121, 0, none⟩ = some (.int .u8 a0_0) := (blk_cell BK121.out 0).trans rfl; have hcz79_1 : w78.cell? ⟨gb121, 1, none⟩ = some (.int .u8 a0_1) := (blk_cell BK121.out 1).trans rfl; have hcz79_2 : w78.cell? ⟨gb121, 2, none⟩ = some (.int .u8 a0_2) := (blk_cell BK121.out 2).trans rfl; have hcz79_3 : w78.cell? ⟨gb121, 3, none⟩ = some (.int .u32 a0_3) := (blk_cell BK121.out 3).trans rfl; have hcz79_4 : w78.cell? ⟨gb121, 4, none⟩ = some (.int .u8 a0_4) := (blk_cell BK121.out 4).trans rfl; have hcz79_5 : w78.cell? ⟨gb121, 5, none⟩ = some (.int .u8 a0_5) := (blk_cell BK121.out 5).trans rfl; have hcz79_6 : w78.cell? ⟨gb121, 6, none⟩ = some (.bool a0_6) := (blk_cell BK121.out 6).trans rfl; have hcz79_7 : w78.cell? ⟨gb121, 7, none⟩ = some (.slice A0_7 l0_7.length c0_7) := (blk_cell BK121.out 7).trans rfl; have hcz79_8 : w78.cell? ⟨gb121, 8, none⟩ = some (.slice A0_8 l0_8.length c0_8) := (blk_cell BK121.out 8).trans rfl; have hcz79_9 : w78.cell? ⟨gb121, 9, none⟩ = some (.slice A0_9 l0_9.length c0_9) := (blk_cell BK121.out 9).trans rfl; have hcz79_10 : w78.cell? ⟨gb121, 10, none⟩ = some (.slice A0_10 l0_10.length c0_10) := (blk_cell BK121.out 10).trans rfl; have hcz79_11 : w78.cell? ⟨gb121, 11, none⟩ = some (.slice A0_11 l0_11.length c0_11) := (blk_cell BK121.out 11).trans rfl; have hfz79_0 := blk_frozen BK121.out 0; have hfz79_1 := blk_frozen BK121.out 1; have hfz79_2 := blk_frozen BK121.out 2; have hfz79_3 := blk_frozen BK121.out 3; have hfz79_4 := blk_frozen BK121.out 4; have hfz79_5 := blk_frozen BK121.out 5; have hfz79_6 := blk_frozen BK121.out 6; have hfz79_7 := blk_frozen BK121.out 7; have hfz79_8 := blk_frozen BK121.out 8; have hfz79_9 := blk_frozen BK121.out 9; have hfz79_10 := blk_frozen BK121.out 10; have hfz79_11 := blk_frozen BK121.out 11))
         go_loopg [3, 131] k4 (fun kq v3 v131 w' => ∃ (x3_5 : List Int) (x131_5 : Int), v131 = .int .i64 x131_5 ∧ Aside0 (tattlerref22_Body.l3 kq x3_5 (l0_10.length : Int) x131_5 a0_0 a0_1 a0_2 a0_3 a0_4 a0_5 a0_6 l0_7 l0_8 l0_9 l0_10 l0_11 = some r) ∧ Aside0 (kq ≤ k4) ∧ Aside0 (BRow.R 5 w' w.heap.size (fun _ => True) v3 x3_5) ∧ Aside0 (w'.heap[gb121]? = some (.cells #[.int .u8 a0_0, .int .u8 a0_1, .int .u8 a0_2, .int .u32 a0_3, .int .u8 a0_4, .int .u8 a0_5, .bool a0_6, (.slice A0_7 l0_7.length c0_7), (.slice A0_8 l0_8.length c0_8), (.slice A0_9 l0_9.length c0_9), (.slice A0_10 l0_10.length c0_10), (.slice A0_11 l0_11.length c0_11)] 29 (0, 0))) ∧ Aside0 (Below w.heap.size w w'))
         case atStart => exact ⟨(y166), (0), (by first | rfl | (simp; done) | (simp [*]; done)), H', ⟨Nat.le_refl _⟩, ⟨by (with_reducible repeat (first | apply BRow.rA | apply BRow.rN | apply BRow.rD)); exact HO168.out⟩, ⟨by (with_reducible repeat (first | refine bN ?_ _ | refine bD ?_ | refine bA ?_ _)); exact BK121.out⟩, ⟨by repeat (first | (with_reducible first | exact HB.out | apply qA | apply qN | apply qD | refine below_set ?_ GE121.out) | exact HB.out)⟩⟩
         case round =>
          clear H'
          try clear c1
          try clear p1
          try clear q1
          try clear hx1
          try clear c2
          try clear p2
          try clear c3
          try clear c4
          try clear c4b0
          try clear c4b1
          try clear c4b2
          try clear c5
          try clear c6
          try clear c6b0
          try clear c6b1
          try clear c6b2
          try clear p6
          try clear c7
          try clear p13
          try clear q13
          try clear hx13
          try clear p15
          try clear q15
          try clear hx15
          try clear c16
          try clear c17
          try clear c19
          try clear c22
          try clear c26
          try clear c27
          try clear c27b0
          try clear c28
          try clear c28b0
          try clear c29
          try clear c29b0
          try clear c32
          try clear c32b0
          try clear c32b1
          try clear c32b2
          try clear c34
          try clear c34b0
          try clear c34b1
          try clear c34b2
          try clear c35
          try clear c38
          try clear c47
          try clear c52
          try clear c52b0
          try clear c53
          try clear c53b0
          try clear c54
          try clear c54b0
          try clear c56
          try clear c61
          try clear p64
          try clear c66
          try clear c66b0
          try clear c67
          try clear c67b0
          try clear c68
          try clear c68b0
          try clear c69
          try clear c70
          try clear c71
          try clear c75
          try clear hcz15_0
          try clear hcz15_1
          try clear hcz15_10
          try clear hcz15_11
          try clear hcz15_2
          try clear hcz15_3
          try clear hcz15_4
          try clear hcz15_5
          try clear hcz15_6
          try clear hcz15_7
          try clear hcz15_8
          try clear hcz15_9
          try clear hcz23_0
          try clear hcz23_1
          try clear hcz23_10
          try clear hcz23_11
          try clear hcz23_2
          try clear hcz23_3
          try clear hcz23_4
          try clear hcz23_5
          try clear hcz23_6
          try clear hcz23_7
          try clear hcz23_8
          try clear hcz23_9
          try clear hcz26_0
          try clear hcz26_1
          try clear hcz26_10
          try clear hcz26_11
          try clear hcz26_2
          try clear hcz26_3
          try clear hcz26_4
          try clear hcz26_5
          try clear hcz26_6
          try clear hcz26_7
          try clear hcz26_8
          try clear hcz26_9
          try clear hcz36_0
          try clear hcz36_1
          try clear hcz36_10
          try clear hcz36_11
          try clear hcz36_2
          try clear hcz36_3
          try clear hcz36_4
          try clear hcz36_5
          try clear hcz36_6
          try clear hcz36_7
          try clear hcz36_8
          try clear hcz36_9
          try clear hcz39_0
          try clear hcz39_1
          try clear hcz39_2
          try clear hcz48_0
          try clear hcz48_1
          try clear hcz48_10
          try clear hcz48_11
          try clear hcz48_2
          try clear hcz48_3
          try clear hcz48_4
          try clear hcz48_5
          try clear hcz48_6
          try clear hcz48_7
          try clear hcz48_8
          try clear hcz48_9
          try clear hcz51_0
          try clear hcz51_1
          try clear hcz51_10
          try clear hcz51_11
          try clear hcz51_2
          try clear hcz51_3
          try clear hcz51_4
          try clear hcz51_5
          try clear hcz51_6
          try clear hcz51_7
          try clear hcz51_8
          try clear hcz51_9
          try clear hcz57_0
          try clear hcz57_1
          try clear hcz57_10
          try clear hcz57_11
          try clear hcz57_2
          try clear hcz57_3
          try clear hcz57_4
          try clear hcz57_5
          try clear hcz57_6
          try clear hcz57_7
          try clear hcz57_8
          try clear hcz57_9
          try clear hcz62_0
          try clear hcz62_1
          try clear hcz62_10
          try clear hcz62_11
          try clear hcz62_2
          try clear hcz62_3
          try clear hcz62_4
          try clear hcz62_5
          try clear hcz62_6
          try clear hcz62_7
          try clear hcz62_8
          try clear hcz62_9
          try clear hcz65_0
          try clear hcz65_1
          try clear hcz65_10
          try clear hcz65_11
          try clear hcz65_2
          try clear hcz65_3
          try clear hcz65_4
          try clear hcz65_5
          try clear hcz65_6
          try clear hcz65_7
          try clear hcz65_8
          try clear hcz65_9
          try clear hcz71_0
          try clear hcz71_1
          try clear hcz71_10
          try clear hcz71_11
          try clear hcz71_2
          try clear hcz71_3
          try clear hcz71_4
          try clear hcz71_5
          try clear hcz71_6
          try clear hcz71_7
          try clear hcz71_8
          try clear hcz71_9
          try clear hcz76_0
          try clear hcz76_1
          try clear hcz76_10
          try clear hcz76_11
          try clear hcz76_2
          try clear hcz76_3
          try clear hcz76_4
          try clear hcz76_5
          try clear hcz76_6
          try clear hcz76_7
          try clear hcz76_8
          try clear hcz76_9
          try clear hcz79_0
          try clear hcz79_1
          try clear hcz79_10
          try clear hcz79_11
          try clear hcz79_2
          try clear hcz79_3
          try clear hcz79_4
          try clear hcz79_5
          try clear hcz79_6
          try clear hcz79_7
          try clear hcz79_8
          try clear hcz79_9
          try clear hfz15_0
          try clear hfz15_1
          try clear hfz15_10
          try clear hfz15_11
          try clear hfz15_2
          try clear hfz15_3
          try clear hfz15_4
          try clear hfz15_5
          try clear hfz15_6
          try clear hfz15_7
          try clear hfz15_8
          try clear hfz15_9
          try clear hfz23_0
          try clear hfz23_1
          try clear hfz23_10
          try clear hfz23_11
          try clear hfz23_2
          try clear hfz23_3
          try clear hfz23_4
          try clear hfz23_5
          try clear hfz23_6
          try clear hfz23_7
          try clear hfz23_8
          try clear hfz23_9
          try clear hfz26_0
          try clear hfz26_1
          try clear hfz26_10
          try clear hfz26_11
          try clear hfz26_2
          try clear hfz26_3
          try clear hfz26_4
          try clear hfz26_5
          try clear hfz26_6
          try clear hfz26_7
          try clear hfz26_8
          try clear hfz26_9
          try clear hfz36_0
          try clear hfz36_1
          try clear hfz36_10
          try clear hfz36_11
          try clear hfz36_2
          try clear hfz36_3
          try clear hfz36_4
          try clear hfz36_5
          try clear hfz36_6
          try clear hfz36_7
          try clear hfz36_8
          try clear hfz36_9
          try clear hfz39_0
          try clear hfz39_1
          try clear hfz39_2
          try clear hfz48_0
          try clear hfz48_1
          try clear hfz48_10
          try clear hfz48_11
          try clear hfz48_2
          try clear hfz48_3
          try clear hfz48_4
          try clear hfz48_5
          try clear hfz48_6
          try clear hfz48_7
          try clear hfz48_8
          try clear hfz48_9
          try clear hfz51_0
          try clear hfz51_1
          try clear hfz51_10
          try clear hfz51_11
          try clear hfz51_2
          try clear hfz51_3
          try clear hfz51_4
          try clear hfz51_5
          try clear hfz51_6
          try clear hfz51_7
          try clear hfz51_8
          try clear hfz51_9
          try clear hfz57_0
          try clear hfz57_1
          try clear hfz57_10
          try clear hfz57_11
          try clear hfz57_2
          try clear hfz57_3
          try clear hfz57_4
          try clear hfz57_5
          try clear hfz57_6
          try clear hfz57_7
          try clear hfz57_8
          try clear hfz57_9
          try clear hfz62_0
          try clear hfz62_1
          try clear hfz62_10
          try clear hfz62_11
          try clear hfz62_2
          try clear hfz62_3
          try clear hfz62_4
          try clear hfz62_5
          try clear hfz62_6
          try clear hfz62_7
          try clear hfz62_8
          try clear hfz62_9
          try clear hfz65_0
          try clear hfz65_1
          try clear hfz65_10
          try clear hfz65_11
          try clear hfz65_2
          try clear hfz65_3
          try clear hfz65_4
          try clear hfz65_5
          try clear hfz65_6
          try clear hfz65_7
          try clear hfz65_8
          try clear hfz65_9
          try clear hfz71_0
          try clear hfz71_1
          try clear hfz71_10
          try clear hfz71_11
          try clear hfz71_2
          try clear hfz71_3
          try clear hfz71_4
          try clear hfz71_5
          try clear hfz71_6
          try clear hfz71_7
          try clear hfz71_8
          try clear hfz71_9
          try clear hfz76_0
          try clear hfz76_1
          try clear hfz76_10
          try clear hfz76_11
          try clear hfz76_2
          try clear hfz76_3
          try clear hfz76_4
          try clear hfz76_5
          try clear hfz76_6
          try clear hfz76_7
          try clear hfz76_8
          try clear hfz76_9
          try clear hfz79_0
          try clear hfz79_1
          try clear hfz79_10
          try clear hfz79_11
          try clear hfz79_2
          try clear hfz79_3
          try clear hfz79_4
          try clear hfz79_5
          try clear hfz79_6
          try clear hfz79_7
          try clear hfz79_8
          try clear hfz79_9
          try clear hx138_0
          try clear hx138_1
          try clear hx138_2
          try clear hx150_0
          try clear hx159_0
          try clear hx159_1
          try clear hx159_2
          try clear hx159_3
          try clear hx159_4
          try clear hx159_5
          try clear hx159_6
          try clear hx159_7
          try clear p1
          try clear p13
          try clear p138
          try clear p15
          try clear p150
          try clear p159
          try clear p2
          try clear p6
          try clear p64
          try clear q1
          try clear q13
          try clear q138
          try clear q15
          try clear q150
          try clear q159
          obtain ⟨x3_5, x131_5, rfl, HA, HK5, HO_3, BK121, HB⟩ := hrel
          cases gk with
          | zero => exact absurd HA.out (by simp [tattlerref22_Body.l3])
          | succ k5 =>
           have H := HA.out
           clear HA
           simp only [tattlerref22_Body.l3] at H
           by_cases c80 : x131_5 < (l0_10.length : Int)
           rotate_left
           ·
            rw [if_neg c80] at H
            have c80b0 : decide (x131_5 < (l0_10.length : Int)) = false := decide_eq_false c80
            clear c80
            replace H := Option.bind_eq_some_iff.mp H
            obtain ⟨t179, A1050, H⟩ := H
            replace H : (if x3_5.length + t179.size < 140737488355328 then (tattlerref22_Body.l4 k5 (x3_5 ++ bytesOf t179) (l0_11.length : Int) 0 a0_0 a0_1 a0_2 a0_3 a0_4 a0_5 a0_6 l0_7 l0_8 l0_9 l0_10 l0_11) else (none)) = some r := H
            have A105 := Aside0.mk A1050
            clear A1050
            by_cases c106 : x3_5.length + t179.size < 140737488355328
            rotate_left
            ·
             rw [if_neg c106] at H
             exact absurd H (by simp)
            rw [if_pos c106] at H
            have LMc106 := Aside0.mk c106
            clear c106
            obtain ⟨y180, hy180⟩ : ∃ y_ : List Int, y_ = (x3_5 ++ bytesOf t179) := ⟨_, rfl⟩
            replace H : (tattlerref22_Body.l4 k5 y180 (l0_11.length : Int) 0 a0_0 a0_1 a0_2 a0_3 a0_4 a0_5 a0_6 l0_7 l0_8 l0_9 l0_10 l0_11) = some r := by first | (rw [hy180]; with_reducible exact H) | (have H2_ := (Option.bind_some _ _).symm.trans H; rw [hy180]; with_reducible exact H2_) | (have H2_ := (Option.bind_some _ _).symm.trans H; with_reducible exact H2_) | with_reducible exact H | (rw [hy180]; exact H) | exact H
            have Ny180 := Aside0.mk hy180
            clear hy180
            have H' := Aside0.mk H
            clear H
            have hcz107_0 : wr.cell? ⟨gb121, 0, none⟩ = some (.int .u8 a0_0) := (blk_cell BK121.out 0).trans rfl
            have hcz107_1 : wr.cell? ⟨gb121, 1, none⟩ = some (.int .u8 a0_1) := (blk_cell BK121.out 1).trans rfl
            have hcz107_2 : wr.cell? ⟨gb121, 2, none⟩ = some (.int .u8 a0_2) := (blk_cell BK121.out 2).trans rfl
            have hcz107_3 : wr.cell? ⟨gb121, 3, none⟩ = some (.int .u32 a0_3) := (blk_cell BK121.out 3).trans rfl
            have hcz107_4 : wr.cell? ⟨gb121, 4, none⟩ = some (.int .u8 a0_4) := (blk_cell BK121.out 4).trans rfl
            have hcz107_5 : wr.cell? ⟨gb121, 5, none⟩ = some (.int .u8 a0_5) := (blk_cell BK121.out 5).trans rfl
            have hcz107_6 : wr.cell? ⟨gb121, 6, none⟩ = some (.bool a0_6) := (blk_cell BK121.out 6).trans rfl
            have hcz107_7 : wr.cell? ⟨gb121, 7, none⟩ = some (.slice A0_7 l0_7.length c0_7) := (blk_cell BK121.out 7).trans rfl
            have hcz107_8 : wr.cell? ⟨gb121, 8, none⟩ = some (.slice A0_8 l0_8.length c0_8) := (blk_cell BK121.out 8).trans rfl
            have hcz107_9 : wr.cell? ⟨gb121, 9, none⟩ = some (.slice A0_9 l0_9.length c0_9) := (blk_cell BK121.out 9).trans rfl
            have hcz107_10 : wr.cell? ⟨gb121, 10, none⟩ = some (.slice A0_10 l0_10.length c0_10) := (blk_cell BK121.out 10).trans rfl
            have hcz107_11 : wr.cell? ⟨gb121, 11, none⟩ = some (.slice A0_11 l0_11.length c0_11) := (blk_cell BK121.out 11).trans rfl
            have hfz107_0 := blk_frozen BK121.out 0
            have hfz107_1 := blk_frozen BK121.out 1
            have hfz107_2 := blk_frozen BK121.out 2
            have hfz107_3 := blk_frozen BK121.out 3
            have hfz107_4 := blk_frozen BK121.out 4
            have hfz107_5 := blk_frozen BK121.out 5
            have hfz107_6 := blk_frozen BK121.out 6
            have hfz107_7 := blk_frozen BK121.out 7
            have hfz107_8 := blk_frozen BK121.out 8
            have hfz107_9 := blk_frozen BK121.out 9
            have hfz107_10 := blk_frozen BK121.out 10
            have hfz107_11 := blk_frozen BK121.out 11
            go_wp2_with (first | ((with_reducible refine gate_callee (f := 69) rfl ?_); refine goesL_ (some 172) rfl rfl Try.func69 (by kernel_rfl) rfl #[.int .u64 (IntKind.u64.wrap ((l0_11.length : Int)))] rfl (by (try simp only [List.map_toArray, List.map_cons, List.map_nil]); first | done | rfl | (simp only [List.length_drop, List.length_take]; rfl)) ?_; (with_reducible refine (tattlerref22_put.calls (IntKind.u64.wrap ((l0_11.length : Int))) t179 _ A105.out).mono ?_); rintro e w108 ⟨rfl, hb⟩; refine ⟨_, rfl, ?_⟩; have n0_ := Aside0.mk (BRow.R_below (by (with_reducible repeat (first | apply BRow.rA | apply BRow.rN | apply BRow.rD)); exact HO_3.out) hb); have n1_ := Aside0.mk (blk_below (g := gb121) (o := .cells #[.int .u8 a0_0, .int .u8 a0_1, .int .u8 a0_2, .int .u32 a0_3, .int .u8 a0_4, .int .u8 a0_5, .bool a0_6, .slice A0_7 l0_7.length c0_7, .slice A0_8 l0_8.length c0_8, .slice A0_9 l0_9.length c0_9, .slice A0_10 l0_10.length c0_10, .slice A0_11 l0_11.length c0_11] 29 (0, 0)) (by (with_reducible repeat (first | refine bN ?_ _ | refine bD ?_ | refine bA ?_ _)); exact BK121.out) hb); have n2_ := Aside0.mk (below_step (by repeat (first | (with_reducible first | exact HB.out | apply qA | apply qN | apply qD | refine below_set ?_ GE121.out) | exact HB.out)) hb); clear HO_3; clear BK121; clear HB; have HO_3 := n0_; have BK121 := n1_; have HB := n2_; clear n0_ n1_ n2_; (try clear hb); (try clear hb2); (try clear hk); (try clear hi)) | (at_builtin; refine BRow.append_str (w0 := w) w.heap.size rfl (.tmp 167) _ 63 9 5 rfl Try.underlying63 Try.underlying9 info5 u3 x3_5 t179 rfl rfl ?aO ?aB ?aS ?aL ?_; (case aB => exact (by repeat (first | (with_reducible first | exact HB.out | apply qA | apply qN | apply qD | refine below_set ?_ GE121.out) | exact HB.out))); (case aO => exact (BRow.own_of_R (by (with_reducible repeat (first | apply BRow.rA | apply BRow.rN | apply BRow.rD)); exact HO_3.out))); (case aS => exact (below_size (by repeat (first | (with_reducible first | exact HB.out | apply qA | apply qN | apply qD | refine below_set ?_ GE121.out) | exact HB.out)))); (case aL => have := LMc106.out; omega); intro v181 w109 ho0 hb hg; have ho := BRow.R_of_own (ok := fun _ => True) ho0 (fun _ _ => trivial); clear ho0; have hat := True.intro; rw [← Ny180.out] at ho; change BRow.R 5 w109 w.heap.size (fun _ => True) v181 y180 at ho; have n0_ := Aside0.mk (blk_grown (g := gb121) (o := .cells #[.int .u8 a0_0, .int .u8 a0_1, .int .u8 a0_2, .int .u32 a0_3, .int .u8 a0_4, .int .u8 a0_5, .bool a0_6, .slice A0_7 l0_7.length c0_7, .slice A0_8 l0_8.length c0_8, .slice A0_9 l0_9.length c0_9, .slice A0_10 l0_10.length c0_10, .slice A0_11 l0_11.length c0_11] 29 (0, 0)) (by (with_reducible repeat (first | refine bN ?_ _ | refine bD ?_ | refine bA ?_ _)); exact BK121.out) hg (BRow.R_ne HO_3.out BK121.out (by decide))); have n1_ := Aside0.mk (hb); have n2_ := Aside0.mk (ho); clear BK121; clear HB; clear HO_3; have BK121 := n0_; have HB := n1_; have HO182 := n2_; clear n0_ n1_ n2_; clear ho hb hg hat; have hcz110_0 : w109.cell? ⟨gb121, 0, none⟩ = some (.int .u8 a0_0) := (blk_cell BK121.out 0).trans rfl; have hcz110_1 : w109.cell? ⟨gb121, 1, none⟩ = some (.int .u8 a0_1) := (blk_cell BK121.out 1).trans rfl; have hcz110_2 : w109.cell? ⟨gb121, 2, none⟩ = some (.int .u8 a0_2) := (blk_cell BK121.out 2).trans rfl; have hcz110_3 : w109.cell? ⟨gb121, 3, none⟩ = some (.int .u32 a0_3) := (blk_cell BK121.out 3).trans rfl; have hcz110_4 : w109.cell? ⟨gb121, 4, none⟩ = some (.int .u8 a0_4) := (blk_cell BK121.out 4).trans rfl; have hcz110_5 : w109.cell? ⟨gb121, 5, none⟩ = some (.int .u8 a0_5) := (blk_cell BK121.out 5).trans rfl; have hcz110_6 : w109.cell? ⟨gb121, 6, none⟩ = some (.bool a0_6) := (blk_cell BK121.out 6).trans rfl; have hcz110_7 : w109.cell? ⟨gb121, 7, none⟩ = some (.slice A0_7 l0_7.length c0_7) := (blk_cell BK121.out 7).trans rfl; have hcz110_8 : w109.cell? ⟨gb121, 8, none⟩ = some (.slice A0_8 l0_8.length c0_8) := (blk_cell BK121.out 8).trans rfl; have hcz110_9 : w109.cell? ⟨gb121, 9, none⟩ = some (.slice A0_9 l0_9.length c0_9) := (blk_cell BK121.out 9).trans rfl; have hcz110_10 : w109.cell? ⟨gb121, 10, none⟩ = some (.slice A0_10 l0_10.length c0_10) := (blk_cell BK121.out 10).trans rfl; have hcz110_11 : w109.cell? ⟨gb121, 11, none⟩ = some (.slice A0_11 l0_11.length c0_11) := (blk_cell BK121.out 11).trans rfl; have hfz110_0 := blk_frozen BK121.out 0; have hfz110_1 := blk_frozen BK121.out 1; have hfz110_2 := blk_frozen BK121.out 2; have hfz110_3 := blk_frozen BK121.out 3; have hfz110_4 := blk_frozen BK121.out 4; have hfz110_5 := blk_frozen BK121.out 5; have hfz110_6 := blk_frozen BK121.out 6; have hfz110_7 := blk_frozen BK121.out 7; have hfz110_8 := blk_frozen BK121.out 8; have hfz110_9 := blk_frozen BK121.out 9; have hfz110_10 := blk_frozen BK121.out 10; have hfz110_11 := blk_frozen BK121.out 11))
            go_loopg [3, 177] k5 (fun kq v3 v177 w' => ∃ (x3_6 : List Int) (x177_6 : Int), v177 = .int .i64 x177_6 ∧ Aside0 (tattlerref22_Body.l4 kq x3_6 (l0_11.length : Int) x177_6 a0_0 a0_1 a0_2 a0_3 a0_4 a0_5 a0_6 l0_7 l0_8 l0_9 l0_10 l0_11 = some r) ∧ Aside0 (kq ≤ k5) ∧ Aside0 (BRow.R 5 w' w.heap.size (fun _ => True) v3 x3_6) ∧ Aside0 (w'.heap[gb121]? = some (.cells #[.int .u8 a0_0, .int .u8 a0_1, .int .u8 a0_2, .int .u32 a0_3, .int .u8 a0_4, .int .u8 a0_5, .bool a0_6, (.slice A0_7 l0_7.length c0_7), (.slice A0_8 l0_8.length c0_8), (.slice A0_9 l0_9.length c0_9), (.slice A0_10 l0_10.length c0_10), (.slice A0_11 l0_11.length c0_11)] 29 (0, 0))) ∧ Aside0 (Below w.heap.size w w'))
            case atStart => exact ⟨(y180), (0), (by first | rfl | (simp; done) | (simp [*]; done)), H', ⟨Nat.le_refl _⟩, ⟨by (with_reducible repeat (first | apply BRow.rA | apply BRow.rN | apply BRow.rD)); exact HO182.out⟩, ⟨by (with_reducible repeat (first | refine bN ?_ _ | refine bD ?_ | refine bA ?_ _)); exact BK121.out⟩, ⟨by repeat (first | (with_reducible first | exact HB.out | apply qA | apply qN | apply qD | refine below_set ?_ GE121.out) | exact HB.out)⟩⟩
            case round =>
             clear H'
             try clear c1
             try clear p1
             try clear q1
             try clear hx1
             try clear p2
             try clear c6
             try clear p6
             try clear c7
             try clear c8
             try clear c9
             try clear c10
             try clear p13
             try clear q13
             try clear hx13
             try clear p15
             try clear q15
             try clear hx15
             try clear p16
             try clear q16
             try clear hx16
             try clear p64
             try clear c69
             try clear c70
             try clear c80
             try clear c80b0
             try clear c81
             try clear c81b0
             try clear c82
             try clear c82b0
             try clear c85
             try clear c85b0
             try clear c85b1
             try clear c85b2
             try clear c87
             try clear c87b0
             try clear c87b1
             try clear c87b2
             try clear c89
             try clear c89b0
             try clear c89b1
             try clear c89b2
             try clear c91
             try clear c91b0
             try clear c91b1
             try clear c91b2
             try clear c92
             try clear c95
             try clear c106
             try clear hcz107_0
             try clear hcz107_1
             try clear hcz107_10
             try clear hcz107_11
             try clear hcz107_2
             try clear hcz107_3
             try clear hcz107_4
             try clear hcz107_5
             try clear hcz107_6
             try clear hcz107_7
             try clear hcz107_8
             try clear hcz107_9
             try clear hcz110_0
             try clear hcz110_1
             try clear hcz110_10
             try clear hcz110_11
             try clear hcz110_2
             try clear hcz110_3
             try clear hcz110_4
             try clear hcz110_5
             try clear hcz110_6
             try clear hcz110_7
             try clear hcz110_8
             try clear hcz110_9
             try clear hcz93_0
             try clear hcz93_1
             try clear hcz93_10
             try clear hcz93_11
             try clear hcz93_2
             try clear hcz93_3
             try clear hcz93_4
             try clear hcz93_5
             try clear hcz93_6
             try clear hcz93_7
             try clear hcz93_8
             try clear hcz93_9
             try clear hcz96_0
             try clear hcz96_1
             try clear hcz96_2
             try clear hcz96_3
             try clear hcz96_4
             try clear hfz107_0
             try clear hfz107_1
             try clear hfz107_10
             try clear hfz107_11
             try clear hfz107_2
             try clear hfz107_3
             try clear hfz107_4
             try clear hfz107_5
             try clear hfz107_6
             try clear hfz107_7
             try clear hfz107_8
             try clear hfz107_9
             try clear hfz110_0
             try clear hfz110_1
             try clear hfz110_10
             try clear hfz110_11
             try clear hfz110_2
             try clear hfz110_3
             try clear hfz110_4
             try clear hfz110_5
             try clear hfz110_6
             try clear hfz110_7
             try clear hfz110_8
             try clear hfz110_9
             try clear hfz76_8
             try clear hfz76_9
             try clear hfz79_0
             try clear hfz79_1
             try clear hfz79_10
             try clear hfz79_11
             try clear hfz79_2
             try clear hfz79_3
             try clear hfz79_4
             try clear hfz79_5
             try clear hfz79_6
             try clear hfz79_7
             try clear hfz79_8
             try clear hfz79_9
             try clear hfz93_0
             try clear hfz93_1
             try clear hfz93_10
             try clear hfz93_11
             try clear hfz93_2
             try clear hfz93_3
             try clear hfz93_4
             try clear hfz93_5
             try clear hfz93_6
             try clear hfz93_7
             try clear hfz93_8
             try clear hfz93_9
             try clear hfz96_0
             try clear hfz96_1
             try clear hfz96_2
             try clear hfz96_3
             try clear hfz96_4
             try clear hx138_0
             try clear hx138_1
             try clear hx138_2
             try clear hx150_0
             try clear hx159_0
             try clear hx159_1
             try clear hx159_2
             try clear hx159_3
             try clear hx159_4
             try clear hx159_5
             try clear hx159_6
             try clear hx159_7
             try clear hx169_0
             try clear hx169_1
             try clear hx169_2
             try clear hx169_3
             try clear hx169_4
             try clear p1
             try clear p13
             try clear p138
             try clear p15
             try clear p150
             try clear p159
             try clear p169
             try clear p2
             try clear p6
             try clear p64
             try clear q1
             try clear q13
             try clear q138
             try clear q15
             try clear q150
             try clear q159
             try clear q169
             obtain ⟨x3_6, x177_6, rfl, HA, HK6, HO_3, BK121, HB⟩ := hrel
             cases gk with
             | zero => exact absurd HA.out (by simp [tattlerref22_Body.l4])
             | succ k6 =>
              have H := HA.out
              clear HA
              simp only [tattlerref22_Body.l4] at H
              by_cases c111 : x177_6 < (l0_11.length : Int)
              rotate_left
              ·
               rw [if_neg c111] at H
               have c111b0 : decide (x177_6 < (l0_11.length : Int)) = false := decide_eq_false c111
               clear c111
               obtain rfl := Option.some.inj H
               have hcv122 := BRow.own_string (P := Try.prog) Try.underlying63 Try.underlying5 Try.underlying9 (BRow.own_of_R HO_3.out)
               go_wp2
               go_ret
               exact ⟨by first | rfl | (simp [errW_none, errW_some] <;> rfl) | (simp [*, errW_none, errW_some] <;> rfl), by repeat (first | (with_reducible first | exact HB.out | apply qA | apply qN | apply qD | refine below_set ?_ GE121.out) | exact HB.out)⟩
              rw [if_pos c111] at H
              have c111b0 : decide (x177_6 < (l0_11.length : Int)) = true := decide_eq_true c111
              clear c111
              by_cases c112 : 0 ≤ x177_6
              rotate_left
              ·
               rw [if_neg c112] at H
               exact absurd H (by simp)
              rw [if_pos c112] at H
              have c112b0 : decide (0 ≤ x177_6) = true := decide_eq_true c112
              clear c112
              by_cases c113 : x177_6 < (l0_11.length : Int)
              rotate_left
              ·
               rw [if_neg c113] at H
               exact absurd H (by simp)
              rw [if_pos c113] at H
              have c113b0 : decide (x177_6 < (l0_11.length : Int)) = true := decide_eq_true c113
              clear c113
              replace H := Option.bind_eq_some_iff.mp H
              obtain ⟨t184, A1140, H⟩ := H
              replace H : ((tattlerref22_put.f (Int.tmod (rd l0_11 x177_6) 4294967296)).bind fun t186 => (if t184.size + t186.size ≤ 9223372036854775807 then (if x3_6.length + (t184 ++ t186).size < 140737488355328 then (tattlerref22_Body.l4 k6 (x3_6 ++ bytesOf (t184 ++ t186)) (l0_11.length : Int) (wrap64 (x177_6 + 1)) a0_0 a0_1 a0_2 a0_3 a0_4 a0_5 a0_6 l0_7 l0_8 l0_9 l0_10 l0_11) else (none)) else (none))) = some r := H
              have A114 := Aside0.mk A1140
              clear A1140
              replace H := Option.bind_eq_some_iff.mp H
              obtain ⟨t186, A1150, H⟩ := H
              replace H : (if t184.size + t186.size ≤ 9223372036854775807 then (if x3_6.length + (t184 ++ t186).size < 140737488355328 then (tattlerref22_Body.l4 k6 (x3_6 ++ bytesOf (t184 ++ t186)) (l0_11.length : Int) (wrap64 (x177_6 + 1)) a0_0 a0_1 a0_2 a0_3 a0_4 a0_5 a0_6 l0_7 l0_8 l0_9 l0_10 l0_11) else (none)) else (none)) = some r := H
              have A115 := Aside0.mk A1150
              clear A1150
              by_cases c116 : t184.size + t186.size ≤ 9223372036854775807
              rotate_left
              ·
               rw [if_neg c116] at H
               exact absurd H (by simp)
              rw [if_pos c116] at H
              have c116b0 := eq_true c116
              have c116b1 : decide (t184.size + t186.size ≤ 9223372036854775807) = true := decide_eq_true c116
              try have c116b2 : (9223372036854775807 < t184.size + t186.size) = False := eq_false (Nat.not_lt.2 c116)
              by_cases c117 : x3_6.length + (t184 ++ t186).size < 140737488355328
              rotate_left
              ·
               rw [if_neg c117] at H
               exact absurd H (by simp)
              rw [if_pos c117] at H
              have LMc117 := Aside0.mk c117
              clear c117
              obtain ⟨y187, hy187⟩ : ∃ y_ : List Int, y_ = (x3_6 ++ bytesOf (t184 ++ t186)) := ⟨_, rfl⟩
              replace H : (tattlerref22_Body.l4 k6 y187 (l0_11.length : Int) (wrap64 (x177_6 + 1)) a0_0 a0_1 a0_2 a0_3 a0_4 a0_5 a0_6 l0_7 l0_8 l0_9 l0_10 l0_11) = some r := by first | (rw [hy187]; with_reducible exact H) | (have H2_ := (Option.bind_some _ _).symm.trans H; rw [hy187]; with_reducible exact H2_) | (have H2_ := (Option.bind_some _ _).symm.trans H; with_reducible exact H2_) | with_reducible exact H | (rw [hy187]; exact H) | exact H
              have Ny187 := Aside0.mk hy187
              clear hy187
              have H' := Aside0.mk H
              clear H
              try go_wp2
              have n0_ := Aside0.mk (BRow.R_drew HO_3.out)
              have n1_ := Aside0.mk (blk_drew BK121.out)
              have n2_ := Aside0.mk (below_drew1 HB.out)
              clear HO_3
              clear BK121
              clear HB
              have HO_3 := n0_
              have BK121 := n1_
              have HB := n2_
              clear n0_ n1_ n2_
              have p183 : 0 ≤ (x177_6 : Int) := of_decide_eq_true (by first | (with_reducible assumption) | assumption)
              have q183 : x177_6 < (l0_11.length : Int) := of_decide_eq_true (by first | (with_reducible assumption) | assumption)
              obtain ⟨ad183, e183, hx183_0⟩ := Kd.at_int HR0_11.out x177_6 p183 q183
              have hw183_0 := hx183_0
              cases e183
              replace hx183_0 := (HB.out.cell (World.block_lt_of_cell? w _ hx183_0)).trans hx183_0
              replace p183 := eq_true p183
              replace q183 := eq_true q183
              have p185 : 0 ≤ (x177_6 : Int) := of_decide_eq_true (by first | (with_reducible assumption) | assumption)
              have q185 : x177_6 < (l0_11.length : Int) := of_decide_eq_true (by first | (with_reducible assumption) | assumption)
              obtain ⟨ad185, e185, hx185_0⟩ := Kd.at_int HR0_11.out x177_6 p185 q185
              have hw185_0 := hx185_0
              obtain rfl : ad183 = ad185 := (by injection e185)
              replace hx185_0 := (HB.out.cell (World.block_lt_of_cell? w _ hx185_0)).trans hx185_0
              replace p185 := eq_true p185
              replace q185 := eq_true q185
              refine start_ (n := 18) (S := fun w' => w'.cell? ⟨gb121, 0, none⟩ = some (.int .u8 a0_0) ∧ w'.cell? ⟨gb121, 1, none⟩ = some (.int .u8 a0_1) ∧ w'.cell? ⟨gb121, 2, none⟩ = some (.int .u8 a0_2) ∧ w'.cell? ⟨gb121, 3, none⟩ = some (.int .u32 a0_3) ∧ w'.cell? ⟨gb121, 4, none⟩ = some (.int .u8 a0_4) ∧ w'.cell? ⟨gb121, 5, none⟩ = some (.int .u8 a0_5) ∧ w'.cell? ⟨gb121, 6, none⟩ = some (.bool a0_6) ∧ w'.cell? ⟨gb121, 7, none⟩ = some (.slice A0_7 l0_7.length c0_7) ∧ w'.cell? ⟨gb121, 8, none⟩ = some (.slice A0_8 l0_8.length c0_8) ∧ w'.cell? ⟨gb121, 9, none⟩ = some (.slice A0_9 l0_9.length c0_9) ∧ w'.cell? ⟨gb121, 10, none⟩ = some (.slice A0_10 l0_10.length c0_10) ∧ w'.cell? ⟨gb121, 11, none⟩ = some (.slice (some ad183) l0_11.length c0_11) ∧ w'.cell? (ad183.add (x177_6).toNat) = some (.int .u64 (rd l0_11 x177_6)) ∧ w'.cell? (ad183.add (x177_6).toNat) = some (.int .u64 (rd l0_11 x177_6))) (ds := []) #[false, false, false, false, false, false, false, false, false, false, false, false, false, false, false, false, false, false] (by kernel_rfl) rfl rfl ⟨(blk_cell BK121.out 0).trans rfl, (blk_cell BK121.out 1).trans rfl, (blk_cell BK121.out 2).trans rfl, (blk_cell BK121.out 3).trans rfl, (blk_cell BK121.out 4).trans rfl, (blk_cell BK121.out 5).trans rfl, (blk_cell BK121.out 6).trans rfl, (blk_cell BK121.out 7).trans rfl, (blk_cell BK121.out 8).trans rfl, (blk_cell BK121.out 9).trans rfl, (blk_cell BK121.out 10).trans rfl, (blk_cell BK121.out 11).trans rfl, ((HB.out.cell (World.block_lt_of_cell? w _ hw183_0)).trans hw183_0), ((HB.out.cell (World.block_lt_of_cell? w _ hw185_0)).trans hw185_0)⟩ (fun hHeld => ?_); refine with_tabW tattlerref22_Body.tab36 tattlerref22_Body.bits36 (fun HT_ HW_ => ?_)
              generalize wr.drew = w118 at HO_3 BK121 HB hx183_0 hx185_0 hHeld ⊢
              refine pure_ (i := 0) (N := some 180) (v := ?_) (a' := ?_) #[true, false, false, false, false, false, false, false, false, false, false, false, false, false, false, false, false, false] rfl rfl (any_of HT_.out (by kernel_rfl)) (fun _ _ _ h => h) (Or.inl ⟨by rfl, ?_⟩) ?_ ?_
              rotate_left
              ·
               intro w'
               go_simp
               with_reducible rfl
              rotate_left
              ·
               simp only [Act.put, List.setIfInBounds_toArray, List.set_cons_zero, List.set_cons_succ, i64_w, i32_w]
               rfl
              refine pure_ (i := 1) (N := some 181) (v := ?_) (a' := ?_) #[true, true, false, false, false, false, false, false, false, false, false, false, false, false, false, false, false, false] rfl rfl (any_of HT_.out (by kernel_rfl)) (fun _ _ _ h => h) (Or.inl ⟨by rfl, ?_⟩) ?_ ?_
              rotate_left
              ·
               intro w'
               go_simp
               with_reducible rfl
              rotate_left
              ·
               simp only [Act.put, List.setIfInBounds_toArray, List.set_cons_zero, List.set_cons_succ, i64_w, i32_w]
               rfl
              refine pure_ (i := 3) (N := some 183) (v := ?_) (a' := ?_) #[true, true, false, true, false, false, false, false, false, false, false, false, false, false, false, false, false, false] rfl rfl (any_of HT_.out (by kernel_rfl)) (fun _ _ _ h => h) (Or.inl ⟨by rfl, ?_⟩) ?_ ?_
              rotate_left
              ·
               intro w'
               go_simp
               with_reducible rfl
              rotate_left
              ·
               simp only [Act.put, List.setIfInBounds_toArray, List.set_cons_zero, List.set_cons_succ, i64_w, i32_w]
               rfl
              refine pure_ (i := 8) (N := some 188) (v := ?_) (a' := ?_) #[true, true, false, true, false, false, false, false, true, false, false, false, false, false, false, false, false, false] rfl rfl (any_of HT_.out (by kernel_rfl)) (fun _ _ _ h => h) (Or.inl ⟨by rfl, ?_⟩) ?_ ?_
              rotate_left
              ·
               intro w'
               go_simp
               with_reducible rfl
              rotate_left
              ·
               simp only [Act.put, List.setIfInBounds_toArray, List.set_cons_zero, List.set_cons_succ, i64_w, i32_w]
               rfl
              refine pure_ (i := 10) (N := some 190) (v := ?_) (a' := ?_) #[true, true, false, true, false, false, false, false, true, false, true, false, false, false, false, false, false, false] rfl rfl (any_of HT_.out (by kernel_rfl)) (fun _ _ _ h => h) (Or.inl ⟨by rfl, ?_⟩) ?_ ?_
              rotate_left
              ·
               intro w'
               go_simp
               with_reducible rfl
              rotate_left
              ·
               simp only [Act.put, List.setIfInBounds_toArray, List.set_cons_zero, List.set_cons_succ, i64_w, i32_w]
               rfl
              refine take_ (i := 2) (N := some 182) (v := ?_) (a' := ?_) #[true, true, true, true, false, false, false, false, true, false, true, false, false, false, false, false, false, false] rfl rfl (take_ofW HT_.out HW_.out (by kernel_rfl)) (fun _ _ _ h => h) (Or.inl ⟨by rfl, ?_⟩) hHeld ?_ ?_
              rotate_left
              ·
               rintro w' ⟨s0, s1, s2, s3, s4, s5, s6, s7, s8, s9, s10, s11, s12, s13⟩
               go_simp
               with_reducible rfl
              rotate_left
              ·
               simp only [Act.put, List.setIfInBounds_toArray, List.set_cons_zero, List.set_cons_succ, i64_w, i32_w]
               rfl
              refine pure_ (i := 4) (N := some 184) (v := ?_) (a' := ?_) #[true, true, true, true, true, false, false, false, true, false, true, false, false, false, false, false, false, false] rfl rfl (any_of HT_.out (by kernel_rfl)) (fun _ _ _ h => h) (Or.inl ⟨by rfl, ?_⟩) ?_ ?_
              rotate_left
              ·
               intro w'
               go_simp
               with_reducible rfl
              rotate_left
              ·
               simp only [Act.put, List.setIfInBounds_toArray, List.set_cons_zero, List.set_cons_succ, i64_w, i32_w]
               rfl
              refine take_ (i := 5) (N := some 185) (v := ?_) (a' := ?_) #[true, true, true, true, true, true, false, false, true, false, true, false, false, false, false, false, false, false] rfl rfl (take_ofW HT_.out HW_.out (by kernel_rfl)) (fun _ _ _ h => h) (Or.inl ⟨by rfl, ?_⟩) hHeld ?_ ?_
              rotate_left
              ·
               rintro w' ⟨s0, s1, s2, s3, s4, s5, s6, s7, s8, s9, s10, s11, s12, s13⟩
               go_simp
               with_reducible rfl
              rotate_left
              ·
               simp only [Act.put, List.setIfInBounds_toArray, List.set_cons_zero, List.set_cons_succ, i64_w, i32_w]
               rfl
              refine pure_ (i := 6) (N := some 186) (v := ?_) (a' := ?_) #[true, true, true, true, true, true, true, false, true, false, true, false, false, false, false, false, false, false] rfl rfl (any_of HT_.out (by kernel_rfl)) (fun _ _ _ h => h) (Or.inl ⟨by rfl, ?_⟩) ?_ ?_
              rotate_left
              ·
               intro w'
               go_simp
               with_reducible rfl
              rotate_left
              ·
               simp only [Act.put, List.setIfInBounds_toArray, List.set_cons_zero, List.set_cons_succ, i64_w, i32_w]
               rfl
              refine take_ (i := 9) (N := some 189) (v := ?_) (a' := ?_) #[true, true, true, true, true, true, true, false, true, true, true, false, false, false, false, false, false, false] rfl rfl (take_ofW HT_.out HW_.out (by kernel_rfl)) (fun _ _ _ h => h) (Or.inl ⟨by rfl, ?_⟩) hHeld ?_ ?_
              rotate_left
              ·
               rintro w' ⟨s0, s1, s2, s3, s4, s5, s6, s7, s8, s9, s10, s11, s12, s13⟩
               go_simp
               with_reducible rfl
              rotate_left
              ·
               simp only [Act.put, List.setIfInBounds_toArray, List.set_cons_zero, List.set_cons_succ, i64_w, i32_w]
               rfl
              refine pure_ (i := 11) (N := some 191) (v := ?_) (a' := ?_) #[true, true, true, true, true, true, true, false, true, true, true, true, false, false, false, false, false, false] rfl rfl (any_of HT_.out (by kernel_rfl)) (fun _ _ _ h => h) (Or.inl ⟨by rfl, ?_⟩) ?_ ?_
              rotate_left
              ·
               intro w'
               go_simp
               with_reducible rfl
              rotate_left
              ·
               simp only [Act.put, List.setIfInBounds_toArray, List.set_cons_zero, List.set_cons_succ, i64_w, i32_w]
               rfl
              refine take_ (i := 12) (N := some 192) (v := ?_) (a' := ?_) #[true, true, true, true, true, true, true, false, true, true, true, true, true, false, false, false, false, false] rfl rfl (take_ofW HT_.out HW_.out (by kernel_rfl)) (fun _ _ _ h => h) (Or.inl ⟨by rfl, ?_⟩) hHeld ?_ ?_
              rotate_left
              ·
               rintro w' ⟨s0, s1, s2, s3, s4, s5, s6, s7, s8, s9, s10, s11, s12, s13⟩
               go_simp
               with_reducible rfl
              rotate_left
              ·
               simp only [Act.put, List.setIfInBounds_toArray, List.set_cons_zero, List.set_cons_succ, i64_w, i32_w]
               rfl
              refine pure_ (i := 13) (N := some 193) (v := ?_) (a' := ?_) #[true, true, true, true, true, true, true, false, true, true, true, true, true, true, false, false, false, false] rfl rfl (any_of HT_.out (by kernel_rfl)) (fun _ _ _ h => h) (Or.inl ⟨by rfl, ?_⟩) ?_ ?_
              rotate_left
              ·
               intro w'
               go_simp
               with_reducible rfl
              rotate_left
              ·
               simp only [Act.put, List.setIfInBounds_toArray, List.set_cons_zero, List.set_cons_succ, i64_w, i32_w]
               rfl
              refine one_ (i := 7) (N := some 187) #[true, true, true, true, true, true, true, true, true, true, true, true, true, true, false, false, false, false] rfl rfl (one_of HT_.out (by kernel_rfl)) (by decide) (fun K hK => ?_)
              refine goes_ Try.func69 (by kernel_rfl) rfl #[.int .u64 (IntKind.u64.wrap (Int.tdiv (rd l0_11 x177_6) 4294967296))] (by rfl) rfl rfl (by (try simp only [List.map_toArray, List.map_cons, List.map_nil]); first | done | rfl | (simp only [List.length_drop, List.length_take]; rfl)) ?_
              with_reducible refine (tattlerref22_put.calls (IntKind.u64.wrap (Int.tdiv (rd l0_11 x177_6) 4294967296)) t184 _ A114.out).mono ?_
              rintro e w119 ⟨rfl, hb⟩
              refine ⟨_, rfl, ?_⟩
              have n0_ := Aside0.mk (BRow.R_below (by (with_reducible repeat (first | apply BRow.rA | apply BRow.rN | apply BRow.rD)); exact HO_3.out) hb)
              have n1_ := Aside0.mk (blk_below (g := gb121) (o := .cells #[.int .u8 a0_0, .int .u8 a0_1, .int .u8 a0_2, .int .u32 a0_3, .int .u8 a0_4, .int .u8 a0_5, .bool a0_6, .slice A0_7 l0_7.length c0_7, .slice A0_8 l0_8.length c0_8, .slice A0_9 l0_9.length c0_9, .slice A0_10 l0_10.length c0_10, .slice (some ad183) l0_11.length c0_11] 29 (0, 0)) (by (with_reducible repeat (first | refine bN ?_ _ | refine bD ?_ | refine bA ?_ _)); exact BK121.out) hb)
              have n2_ := Aside0.mk (below_step (by repeat (first | (with_reducible first | exact HB.out | apply qA | apply qN | apply qD | refine below_set ?_ GE121.out) | exact HB.out)) hb)
              clear HO_3
              clear BK121
              clear HB
              have HO_3 := n0_
              have BK121 := n1_
              have HB := n2_
              clear n0_ n1_ n2_
              (try clear hb)
              (try clear hb2)
              (try clear hk)
              (try clear hi)
              refine hK.out _ _ ⟨(blk_cell BK121.out 0).trans rfl, (blk_cell BK121.out 1).trans rfl, (blk_cell BK121.out 2).trans rfl, (blk_cell BK121.out 3).trans rfl, (blk_cell BK121.out 4).trans rfl, (blk_cell BK121.out 5).trans rfl, (blk_cell BK121.out 6).trans rfl, (blk_cell BK121.out 7).trans rfl, (blk_cell BK121.out 8).trans rfl, (blk_cell BK121.out 9).trans rfl, (blk_cell BK121.out 10).trans rfl, (blk_cell BK121.out 11).trans rfl, ((HB.out.cell (World.block_lt_of_cell? w _ hw183_0)).trans hw183_0), ((HB.out.cell (World.block_lt_of_cell? w _ hw185_0)).trans hw185_0)⟩ (fun hHeld => ?_)
              clear hK K
              refine norm_ (a' := ?_) ?_ ?_
              rotate_left
              ·
               show Act.put _ (some 187) _ = _
               simp only [Act.put, List.setIfInBounds_toArray, List.set_cons_zero, List.set_cons_succ, i64_w, i32_w]
               rfl
              refine one_ (i := 14) (N := some 194) #[true, true, true, true, true, true, true, true, true, true, true, true, true, true, true, false, false, false] rfl rfl (one_of HT_.out (by kernel_rfl)) (by decide) (fun K hK => ?_)
              refine goes_ Try.func69 (by kernel_rfl) rfl #[.int .u64 (Int.tmod (rd l0_11 x177_6) 4294967296)] (by rfl) rfl rfl (by (try simp only [List.map_toArray, List.map_cons, List.map_nil]); first | done | rfl | (simp only [List.length_drop, List.length_take]; rfl)) ?_
              with_reducible refine (tattlerref22_put.calls (Int.tmod (rd l0_11 x177_6) 4294967296) t186 _ A115.out).mono ?_
              rintro e w120 ⟨rfl, hb⟩
              refine ⟨_, rfl, ?_⟩
              have n0_ := Aside0.mk (BRow.R_below (by (with_reducible repeat (first | apply BRow.rA | apply BRow.rN | apply BRow.rD)); exact HO_3.out) hb)
              have n1_ := Aside0.mk (blk_below (g := gb121) (o := .cells #[.int .u8 a0_0, .int .u8 a0_1, .int .u8 a0_2, .int .u32 a0_3, .int .u8 a0_4, .int .u8 a0_5, .bool a0_6, .slice A0_7 l0_7.length c0_7, .slice A0_8 l0_8.length c0_8, .slice A0_9 l0_9.length c0_9, .slice A0_10 l0_10.length c0_10, .slice (some ad183) l0_11.length c0_11] 29 (0, 0)) (by (with_reducible repeat (first | refine bN ?_ _ | refine bD ?_ | refine bA ?_ _)); exact BK121.out) hb)
              have n2_ := Aside0.mk (below_step (by repeat (first | (with_reducible first | exact HB.out | apply qA | apply qN | apply qD | refine below_set ?_ GE121.out) | exact HB.out)) hb)
              clear HO_3
              clear BK121
              clear HB
              have HO_3 := n0_
              have BK121 := n1_
              have HB := n2_
              clear n0_ n1_ n2_
              (try clear hb)
              (try clear hb2)
              (try clear hk)
              (try clear hi)
              refine hK.out _ _ ⟨(blk_cell BK121.out 0).trans rfl, (blk_cell BK121.out 1).trans rfl, (blk_cell BK121.out 2).trans rfl, (blk_cell BK121.out 3).trans rfl, (blk_cell BK121.out 4).trans rfl, (blk_cell BK121.out 5).trans rfl, (blk_cell BK121.out 6).trans rfl, (blk_cell BK121.out 7).trans rfl, (blk_cell BK121.out 8).trans rfl, (blk_cell BK121.out 9).trans rfl, (blk_cell BK121.out 10).trans rfl, (blk_cell BK121.out 11).trans rfl, ((HB.out.cell (World.block_lt_of_cell? w _ hw183_0)).trans hw183_0), ((HB.out.cell (World.block_lt_of_cell? w _ hw185_0)).trans hw185_0)⟩ (fun hHeld => ?_)
              clear hK K
              refine norm_ (a' := ?_) ?_ ?_
              rotate_left
              ·
               show Act.put _ (some 194) _ = _
               simp only [Act.put, List.setIfInBounds_toArray, List.set_cons_zero, List.set_cons_succ, i64_w, i32_w]
               rfl
              refine pure_ (i := 15) (N := some 195) (v := ?_) (a' := ?_) #[true, true, true, true, true, true, true, true, true, true, true, true, true, true, true, true, false, false] rfl rfl (any_of HT_.out (by kernel_rfl)) (fun _ _ _ h => h) (Or.inl ⟨by rfl, ?_⟩) ?_ ?_
              rotate_left
              ·
               intro w'
               go_simp
               with_reducible rfl
              rotate_left
              ·
               simp only [Act.put, List.setIfInBounds_toArray, List.set_cons_zero, List.set_cons_succ, i64_w, i32_w]
               rfl
              refine one_ (i := 16) (N := some 196) #[true, true, true, true, true, true, true, true, true, true, true, true, true, true, true, true, true, false] rfl rfl (one_of HT_.out (by kernel_rfl)) (by decide) (fun K hK => ?_)
              refine BRow.append_str_step (w0 := w) w.heap.size (by rfl) (.tmp 180) _ 63 9 5 rfl Try.underlying63 Try.underlying9 info5 u3 x3_6 (t184 ++ t186) rfl rfl ?aO ?aB ?aS ?aL ?_
              (case aB => exact (by repeat (first | (with_reducible first | exact HB.out | apply qA | apply qN | apply qD | refine below_set ?_ GE121.out) | exact HB.out)))
              (case aO => exact (BRow.own_of_R (by (with_reducible repeat (first | apply BRow.rA | apply BRow.rN | apply BRow.rD)); exact HO_3.out)))
              (case aS => exact (below_size (by repeat (first | (with_reducible first | exact HB.out | apply qA | apply qN | apply qD | refine below_set ?_ GE121.out) | exact HB.out))))
              (case aL => have := LMc117.out; omega)
              intro v188 w121 ho0 hb hg
              have ho := BRow.R_of_own (ok := fun _ => True) ho0 (fun _ _ => trivial)
              clear ho0
              have hat := True.intro
              rw [← Ny187.out] at ho
              change BRow.R 5 w121 w.heap.size (fun _ => True) v188 y187 at ho
              have n0_ := Aside0.mk (blk_grown (g := gb121) (o := .cells #[.int .u8 a0_0, .int .u8 a0_1, .int .u8 a0_2, .int .u32 a0_3, .int .u8 a0_4, .int .u8 a0_5, .bool a0_6, .slice A0_7 l0_7.length c0_7, .slice A0_8 l0_8.length c0_8, .slice A0_9 l0_9.length c0_9, .slice A0_10 l0_10.length c0_10, .slice (some ad183) l0_11.length c0_11] 29 (0, 0)) (by (with_reducible repeat (first | refine bN ?_ _ | refine bD ?_ | refine bA ?_ _)); exact BK121.out) hg (BRow.R_ne HO_3.out BK121.out (by decide)))
              have n1_ := Aside0.mk (hb)
              have n2_ := Aside0.mk (ho)
              clear BK121
              clear HB
              clear HO_3
              have BK121 := n0_
              have HB := n1_
              have HO189 := n2_
              clear n0_ n1_ n2_
              clear ho hb hg hat
              refine hK.out _ _ ⟨(blk_cell BK121.out 0).trans rfl, (blk_cell BK121.out 1).trans rfl, (blk_cell BK121.out 2).trans rfl, (blk_cell BK121.out 3).trans rfl, (blk_cell BK121.out 4).trans rfl, (blk_cell BK121.out 5).trans rfl, (blk_cell BK121.out 6).trans rfl, (blk_cell BK121.out 7).trans rfl, (blk_cell BK121.out 8).trans rfl, (blk_cell BK121.out 9).trans rfl, (blk_cell BK121.out 10).trans rfl, (blk_cell BK121.out 11).trans rfl, ((HB.out.cell (World.block_lt_of_cell? w _ hw183_0)).trans hw183_0), ((HB.out.cell (World.block_lt_of_cell? w _ hw185_0)).trans hw185_0)⟩ (fun hHeld => ?_)
              clear hK K
              refine norm_ (a' := ?_) ?_ ?_
              rotate_left
              ·
               show Act.put _ (some 196) _ = _
               simp only [Act.put, List.setIfInBounds_toArray, List.set_cons_zero, List.set_cons_succ, i64_w, i32_w]
               rfl
              refine pure_ (i := 17) (N := some 3) (v := ?_) (a' := ?_) #[true, true, true, true, true, true, true, true, true, true, true, true, true, true, true, true, true, true] rfl rfl (any_of HT_.out (by kernel_rfl)) (fun _ _ _ h => h) (Or.inl ⟨by rfl, ?_⟩) ?_ ?_
              rotate_left
              ·
               intro w'
               go_simp
               with_reducible rfl
              rotate_left
              ·
               simp only [Act.put, List.setIfInBounds_toArray, List.set_cons_zero, List.set_cons_succ, i64_w, i32_w]
               rfl
              refine done_ (done_of HT_.out (by kernel_rfl)) ?_
              try go_wp2
              go_roundg k6
              case measure => have := HJ7.out; have := HK2.out; have := HK3.out; have := HK4.out; have := HK5.out; have := HK6.out; omega
              case rel => exact ⟨(y187), (wrap64 (x177_6 + 1)), (by first | rfl | (simp; done) | (simp [*]; done)), H', ⟨by have := HJ7.out; have := HK2.out; have := HK3.out; have := HK4.out; have := HK5.out; have := HK6.out; omega⟩, ⟨by (with_reducible repeat (first | apply BRow.rA | apply BRow.rN | apply BRow.rD)); exact HO189.out⟩, ⟨by (with_reducible repeat (first | refine bN ?_ _ | refine bD ?_ | refine bA ?_ _)); exact BK121.out⟩, ⟨by repeat (first | (with_reducible first | exact HB.out | apply qA | apply qN | apply qD | refine below_set ?_ GE121.out) | exact HB.out)⟩⟩
           rw [if_pos c80] at H
           have c80b0 : decide (x131_5 < (l0_10.length : Int)) = true := decide_eq_true c80
           clear c80
           by_cases c81 : 0 ≤ x131_5
           rotate_left
           ·
            rw [if_neg c81] at H
            exact absurd H (by simp)
           rw [if_pos c81] at H
           have c81b0 : decide (0 ≤ x131_5) = true := decide_eq_true c81
           clear c81
           by_cases c82 : x131_5 < (l0_10.length : Int)
           rotate_left
           ·
            rw [if_neg c82] at H
            exact absurd H (by simp)
           rw [if_pos c82] at H
           have c82b0 : decide (x131_5 < (l0_10.length : Int)) = true := decide_eq_true c82
           clear c82
           replace H := Option.bind_eq_some_iff.mp H
           obtain ⟨t171, A830, H⟩ := H
           replace H : ((tattlerref22_put.f ((rd_T56 l0_10 x131_5).f1.f0)).bind fun t172 => (if t171.size + t172.size ≤ 9223372036854775807 then ((tattlerref22_put.f (IntKind.u64.wrap ((rd_T56 l0_10 x131_5).f1.f1))).bind fun t173 => (if (t171 ++ t172).size + t173.size ≤ 9223372036854775807 then ((tattlerref22_put.f (IntKind.u64.wrap ((rd_T56 l0_10 x131_5).f1.f2))).bind fun t174 => (if ((t171 ++ t172) ++ t173).size + t174.size ≤ 9223372036854775807 then ((tattlerref22_put.f (IntKind.u64.wrap ((rd_T56 l0_10 x131_5).f2))).bind fun t175 => (if (((t171 ++ t172) ++ t173) ++ t174).size + t175.size ≤ 9223372036854775807 then (if x3_5.length + ((((t171 ++ t172) ++ t173) ++ t174) ++ t175).size < 140737488355328 then (tattlerref22_Body.l3 k5 (x3_5 ++ bytesOf ((((t171 ++ t172) ++ t173) ++ t174) ++ t175)) (l0_10.length : Int) (wrap64 (x131_5 + 1)) a0_0 a0_1 a0_2 a0_3 a0_4 a0_5 a0_6 l0_7 l0_8 l0_9 l0_10 l0_11) else (none)) else (none))) else (none))) else (none))) else (none))) = some r := H
           have A83 := Aside0.mk A830
           clear A830
           replace H := Option.bind_eq_some_iff.mp H
           obtain ⟨t172, A840, H⟩ := H
           replace H : (if t171.size + t172.size ≤ 9223372036854775807 then ((tattlerref22_put.f (IntKind.u64.wrap ((rd_T56 l0_10 x131_5).f1.f1))).bind fun t173 => (if (t171 ++ t172).size + t173.size ≤ 9223372036854775807 then ((tattlerref22_put.f (IntKind.u64.wrap ((rd_T56 l0_10 x131_5).f1.f2))).bind fun t174 => (if ((t171 ++ t172) ++ t173).size + t174.size ≤ 9223372036854775807 then ((tattlerref22_put.f (IntKind.u64.wrap ((rd_T56 l0_10 x131_5).f2))).bind fun t175 => (if (((t171 ++ t172) ++ t173) ++ t174).size + t175.size ≤ 9223372036854775807 then (if x3_5.length + ((((t171 ++ t172) ++ t173) ++ t174) ++ t175).size < 140737488355328 then (tattlerref22_Body.l3 k5 (x3_5 ++ bytesOf ((((t171 ++ t172) ++ t173) ++ t174) ++ t175)) (l0_10.length : Int) (wrap64 (x131_5 + 1)) a0_0 a0_1 a0_2 a0_3 a0_4 a0_5 a0_6 l0_7 l0_8 l0_9 l0_10 l0_11) else (none)) else (none))) else (none))) else (none))) else (none)) = some r := H
           have A84 := Aside0.mk A840
           clear A840
           by_cases c85 : t171.size + t172.size ≤ 9223372036854775807
           rotate_left
           ·
            rw [if_neg c85] at H
            exact absurd H (by simp)
           rw [if_pos c85] at H
           have c85b0 := eq_true c85
           have c85b1 : decide (t171.size + t172.size ≤ 9223372036854775807) = true := decide_eq_true c85
           try have c85b2 : (9223372036854775807 < t171.size + t172.size) = False := eq_false (Nat.not_lt.2 c85)
           replace H := Option.bind_eq_some_iff.mp H
           obtain ⟨t173, A860, H⟩ := H
           replace H : (if (t171 ++ t172).size + t173.size ≤ 9223372036854775807 then ((tattlerref22_put.f (IntKind.u64.wrap ((rd_T56 l0_10 x131_5).f1.f2))).bind fun t174 => (if ((t171 ++ t172) ++ t173).size + t174.size ≤ 9223372036854775807 then ((tattlerref22_put.f (IntKind.u64.wrap ((rd_T56 l0_10 x131_5).f2))).bind fun t175 => (if (((t171 ++ t172) ++ t173) ++ t174).size + t175.size ≤ 9223372036854775807 then (if x3_5.length + ((((t171 ++ t172) ++ t173) ++ t174) ++ t175).size < 140737488355328 then (tattlerref22_Body.l3 k5 (x3_5 ++ bytesOf ((((t171 ++ t172) ++ t173) ++ t174) ++ t175)) (l0_10.length : Int) (wrap64 (x131_5 + 1)) a0_0 a0_1 a0_2 a0_3 a0_4 a0_5 a0_6 l0_7 l0_8 l0_9 l0_10 l0_11) else (none)) else (none))) else (none))) else (none)) = some r := H
           have A86 := Aside0.mk A860
           clear A860
           by_cases c87 : (t171 ++ t172).size + t173.size ≤ 9223372036854775807
           rotate_left
           ·
            rw [if_neg c87] at H
            exact absurd H (by simp)
           rw [if_pos c87] at H
           have c87b0 := eq_true c87
           have c87b1 : decide ((t171 ++ t172).size + t173.size ≤ 9223372036854775807) = true := decide_eq_true c87
           try have c87b2 : (9223372036854775807 < (t171 ++ t172).size + t173.size) = False := eq_false (Nat.not_lt.2 c87)
           try (have c87b3 := c87b2; simp only [ByteArray.size_append] at c87b3)
           replace H := Option.bind_eq_some_iff.mp H
           obtain ⟨t174, A880, H⟩ := H
           replace H : (if ((t171 ++ t172) ++ t173).size + t174.size ≤ 9223372036854775807 then ((tattlerref22_put.f (IntKind.u64.wrap ((rd_T56 l0_10 x131_5).f2))).bind fun t175 => (if (((t171 ++ t172) ++ t173) ++ t174).size + t175.size ≤ 9223372036854775807 then (if x3_5.length + ((((t171 ++ t172) ++ t173) ++ t174) ++ t175).size < 140737488355328 then (tattlerref22_Body.l3 k5 (x3_5 ++ bytesOf ((((t171 ++ t172) ++ t173) ++ t174) ++ t175)) (l0_10.length : Int) (wrap64 (x131_5 + 1)) a0_0 a0_1 a0_2 a0_3 a0_4 a0_5 a0_6 l0_7 l0_8 l0_9 l0_10 l0_11) else (none)) else (none))) else (none)) = some r := H
           have A88 := Aside0.mk A880
           clear A880
           by_cases c89 : ((t171 ++ t172) ++ t173).size + t174.size ≤ 9223372036854775807
           rotate_left
           ·
            rw [if_neg c89] at H
            exact absurd H (by simp)
           rw [if_pos c89] at H
           have c89b0 := eq_true c89
           have c89b1 : decide (((t171 ++ t172) ++ t173).size + t174.size ≤ 9223372036854775807) = true := decide_eq_true c89
           try have c89b2 : (9223372036854775807 < ((t171 ++ t172) ++ t173).size + t174.size) = False := eq_false (Nat.not_lt.2 c89)
           try (have c89b3 := c89b2; simp only [ByteArray.size_append] at c89b3)
           replace H := Option.bind_eq_some_iff.mp H
           obtain ⟨t175, A900, H⟩ := H
           replace H : (if (((t171 ++ t172) ++ t173) ++ t174).size + t175.size ≤ 9223372036854775807 then (if x3_5.length + ((((t171 ++ t172) ++ t173) ++ t174) ++ t175).size < 140737488355328 then (tattlerref22_Body.l3 k5 (x3_5 ++ bytesOf ((((t171 ++ t172) ++ t173) ++ t174) ++ t175)) (l0_10.length : Int) (wrap64 (x131_5 + 1)) a0_0 a0_1 a0_2 a0_3 a0_4 a0_5 a0_6 l0_7 l0_8 l0_9 l0_10 l0_11) else (none)) else (none)) = some r := H
           have A90 := Aside0.mk A900
           clear A900
           by_cases c91 : (((t171 ++ t172) ++ t173) ++ t174).size + t175.size ≤ 9223372036854775807
           rotate_left
           ·
            rw [if_neg c91] at H
            exact absurd H (by simp)
           rw [if_pos c91] at H
           have c91b0 := eq_true c91
           have c91b1 : decide ((((t171 ++ t172) ++ t173) ++ t174).size + t175.size ≤ 9223372036854775807) = true := decide_eq_true c91
           try have c91b2 : (9223372036854775807 < (((t171 ++ t172) ++ t173) ++ t174).size + t175.size) = False := eq_false (Nat.not_lt.2 c91)
           try (have c91b3 := c91b2; simp only [ByteArray.size_append] at c91b3)
           by_cases c92 : x3_5.length + ((((t171 ++ t172) ++ t173) ++ t174) ++ t175).size < 140737488355328
           rotate_left
           ·
            rw [if_neg c92] at H
            exact absurd H (by simp)
           rw [if_pos c92] at H
           have LMc92 := Aside0.mk c92
           clear c92
           obtain ⟨y176, hy176⟩ : ∃ y_ : List Int, y_ = (x3_5 ++ bytesOf ((((t171 ++ t172) ++ t173) ++ t174) ++ t175)) := ⟨_, rfl⟩
           replace H : (tattlerref22_Body.l3 k5 y176 (l0_10.length : Int) (wrap64 (x131_5 + 1)) a0_0 a0_1 a0_2 a0_3 a0_4 a0_5 a0_6 l0_7 l0_8 l0_9 l0_10 l0_11) = some r := by first | (rw [hy176]; with_reducible exact H) | (have H2_ := (Option.bind_some _ _).symm.trans H; rw [hy176]; with_reducible exact H2_) | (have H2_ := (Option.bind_some _ _).symm.trans H; with_reducible exact H2_) | with_reducible exact H | (rw [hy176]; exact H) | exact H
           have Ny176 := Aside0.mk hy176
           clear hy176
           have H' := Aside0.mk H
           clear H
           have hcz93_0 : wr.cell? ⟨gb121, 0, none⟩ = some (.int .u8 a0_0) := (blk_cell BK121.out 0).trans rfl
           have hcz93_1 : wr.cell? ⟨gb121, 1, none⟩ = some (.int .u8 a0_1) := (blk_cell BK121.out 1).trans rfl
           have hcz93_2 : wr.cell? ⟨gb121, 2, none⟩ = some (.int .u8 a0_2) := (blk_cell BK121.out 2).trans rfl
           have hcz93_3 : wr.cell? ⟨gb121, 3, none⟩ = some (.int .u32 a0_3) := (blk_cell BK121.out 3).trans rfl
           have hcz93_4 : wr.cell? ⟨gb121, 4, none⟩ = some (.int .u8 a0_4) := (blk_cell BK121.out 4).trans rfl
           have hcz93_5 : wr.cell? ⟨gb121, 5, none⟩ = some (.int .u8 a0_5) := (blk_cell BK121.out 5).trans rfl
           have hcz93_6 : wr.cell? ⟨gb121, 6, none⟩ = some (.bool a0_6) := (blk_cell BK121.out 6).trans rfl
           have hcz93_7 : wr.cell? ⟨gb121, 7, none⟩ = some (.slice A0_7 l0_7.length c0_7) := (blk_cell BK121.out 7).trans rfl
           have hcz93_8 : wr.cell? ⟨gb121, 8, none⟩ = some (.slice A0_8 l0_8.length c0_8) := (blk_cell BK121.out 8).trans rfl
           have hcz93_9 : wr.cell? ⟨gb121, 9, none⟩ = some (.slice A0_9 l0_9.length c0_9) := (blk_cell BK121.out 9).trans rfl
           have hcz93_10 : wr.cell? ⟨gb121, 10, none⟩ = some (.slice A0_10 l0_10.length c0_10) := (blk_cell BK121.out 10).trans rfl
           have hcz93_11 : wr.cell? ⟨gb121, 11, none⟩ = some (.slice A0_11 l0_11.length c0_11) := (blk_cell BK121.out 11).trans rfl
           have hfz93_0 := blk_frozen BK121.out 0
           have hfz93_1 := blk_frozen BK121.out 1
           have hfz93_2 := blk_frozen BK121.out 2
           have hfz93_3 := blk_frozen BK121.out 3
           have hfz93_4 := blk_frozen BK121.out 4
           have hfz93_5 := blk_frozen BK121.out 5
           have hfz93_6 := blk_frozen BK121.out 6
           have hfz93_7 := blk_frozen BK121.out 7
           have hfz93_8 := blk_frozen BK121.out 8
           have hfz93_9 := blk_frozen BK121.out 9
           have hfz93_10 := blk_frozen BK121.out 10
           have hfz93_11 := blk_frozen BK121.out 11
           have p169 : 0 ≤ (x131_5 : Int) := of_decide_eq_true (by first | (with_reducible assumption) | assumption)
           have q169 : x131_5 < (l0_10.length : Int) := of_decide_eq_true (by first | (with_reducible assumption) | assumption)
           obtain ⟨ad169, e169, hx169_0, hx169_1, hx169_2, hx169_3, hx169_4⟩ := at_T56 HR0_10.out x131_5 p169 q169
           cases e169
           replace hx169_0 := (HB.out.cell (World.block_lt_of_cell? w _ hx169_0)).trans hx169_0
           replace hx169_1 := (HB.out.cell (World.block_lt_of_cell? w _ hx169_1)).trans hx169_1
           replace hx169_2 := (HB.out.cell (World.block_lt_of_cell? w _ hx169_2)).trans hx169_2
           replace hx169_3 := (HB.out.cell (World.block_lt_of_cell? w _ hx169_3)).trans hx169_3
           replace hx169_4 := (HB.out.cell (World.block_lt_of_cell? w _ hx169_4)).trans hx169_4
           replace p169 := eq_true p169
           replace q169 := eq_true q169
           try go_wp2_with (first | ((with_reducible refine gate_dst (N := 11) rfl ?_); refine box_event ?hg (N := 11) ?hd (cs := #[.string (⟨#[]⟩ : ByteArray), .int .u64 0, .int .u32 0, .int .u8 0, .int .u8 0]) (t := 56) ?hr ?_; (case hd => rfl); (case hg => rfl); (case hr => first | (go_simp; done) | (go_simp; rfl)); intro gb170 hg w94 hbox hb; have n0_ := Aside0.mk (BRow.R_below (by (with_reducible repeat (first | apply BRow.rA | apply BRow.rN | apply BRow.rD)); exact HO_3.out) hb); have n1_ := Aside0.mk (blk_below (g := gb121) (o := .cells #[.int .u8 a0_0, .int .u8 a0_1, .int .u8 a0_2, .int .u32 a0_3, .int .u8 a0_4, .int .u8 a0_5, .bool a0_6, .slice A0_7 l0_7.length c0_7, .slice A0_8 l0_8.length c0_8, .slice A0_9 l0_9.length c0_9, .slice (some ad169) l0_10.length c0_10, .slice A0_11 l0_11.length c0_11] 29 (0, 0)) (by (with_reducible repeat (first | refine bN ?_ _ | refine bD ?_ | refine bA ?_ _)); exact BK121.out) hb); have n2_ := Aside0.mk (below_step (by repeat (first | (with_reducible first | exact HB.out | apply qA | apply qN | apply qD | refine below_set ?_ GE121.out) | exact HB.out)) hb); have n3_ := Aside0.mk (hbox); have n4_ := Aside0.mk ((by rw [hg]; exact (below_size (by repeat (first | (with_reducible first | exact HB.out | apply qA | apply qN | apply qD | refine below_set ?_ GE121.out) | exact HB.out))) : w.heap.size ≤ gb170)); have n5_ := Aside0.mk ((by rw [hg]; exact (below_size (by repeat (first | (with_reducible first | exact HB.out | apply qA | apply qN | apply qD | refine below_set ?_ GE121.out) | exact HB.out))) : w.heap.size ≤ gb170)); have n6_ := Aside0.mk ((by rw [hg]; exact Nat.ne_of_lt (blk_lt (g := gb121) (o := .cells #[.int .u8 a0_0, .int .u8 a0_1, .int .u8 a0_2, .int .u32 a0_3, .int .u8 a0_4, .int .u8 a0_5, .bool a0_6, .slice A0_7 l0_7.length c0_7, .slice A0_8 l0_8.length c0_8, .slice A0_9 l0_9.length c0_9, .slice (some ad169) l0_10.length c0_10, .slice A0_11 l0_11.length c0_11] 29 (0, 0)) (by (with_reducible repeat (first | refine bN ?_ _ | refine bD ?_ | refine bA ?_ _)); exact BK121.out)) : gb121 ≠ gb170)); have n7_ := Aside0.mk ((by rw [hg]; exact Nat.ne_of_gt (blk_lt (g := gb121) (o := .cells #[.int .u8 a0_0, .int .u8 a0_1, .int .u8 a0_2, .int .u32 a0_3, .int .u8 a0_4, .int .u8 a0_5, .bool a0_6, .slice A0_7 l0_7.length c0_7, .slice A0_8 l0_8.length c0_8, .slice A0_9 l0_9.length c0_9, .slice (some ad169) l0_10.length c0_10, .slice A0_11 l0_11.length c0_11] 29 (0, 0)) (by (with_reducible repeat (first | refine bN ?_ _ | refine bD ?_ | refine bA ?_ _)); exact BK121.out)) : gb170 ≠ gb121)); clear HO_3; clear BK121; clear HB; have HO_3 := n0_; have BK121 := n1_; have HB := n2_; have BK170 := n3_; have GW170 := n4_; have GE170 := n5_; have NB121_170 := n6_; have NB170_121 := n7_; clear n0_ n1_ n2_ n3_ n4_ n5_ n6_ n7_; clear hb hbox hg; have hnb95 := NB170_121.out; have hnc95 := NB121_170.out; have hcz96_0 : w94.cell? ⟨gb170, 0, none⟩ = some (.string (⟨#[]⟩ : ByteArray)) := (blk_cell BK170.out 0).trans rfl; have hcz96_1 : w94.cell? ⟨gb170, 1, none⟩ = some (.int .u64 0) := (blk_cell BK170.out 1).trans rfl; have hcz96_2 : w94.cell? ⟨gb170, 2, none⟩ = some (.int .u32 0) := (blk_cell BK170.out 2).trans rfl; have hcz96_3 : w94.cell? ⟨gb170, 3, none⟩ = some (.int .u8 0) := (blk_cell BK170.out 3).trans rfl; have hcz96_4 : w94.cell? ⟨gb170, 4, none⟩ = some (.int .u8 0) := (blk_cell BK170.out 4).trans rfl; have hfz96_0 := blk_frozen BK170.out 0; have hfz96_1 := blk_frozen BK170.out 1; have hfz96_2 := blk_frozen BK170.out 2; have hfz96_3 := blk_frozen BK170.out 3; have hfz96_4 := blk_frozen BK170.out 4))
           have n0_ : Aside0 (BRow.R 5 (((((w94.setCell ⟨gb170, 0, none⟩ (.string ((rd_T56 l0_10 x131_5).f0))).setCell ⟨gb170, 1, none⟩ (.int .u64 ((rd_T56 l0_10 x131_5).f1.f0))).setCell ⟨gb170, 2, none⟩ (.int .u32 ((rd_T56 l0_10 x131_5).f1.f1))).setCell ⟨gb170, 3, none⟩ (.int .u8 ((rd_T56 l0_10 x131_5).f1.f2))).setCell ⟨gb170, 4, none⟩ (.int .u8 ((rd_T56 l0_10 x131_5).f2))) w.heap.size (fun _ => True) u3 x3_5) := ⟨by (with_reducible repeat (first | apply BRow.rA | apply BRow.rN | apply BRow.rD)); exact BRow.R_mono (BRow.R_far (p := ⟨gb170, 4, none⟩) (BRow.R_far (p := ⟨gb170, 3, none⟩) (BRow.R_far (p := ⟨gb170, 2, none⟩) (BRow.R_far (p := ⟨gb170, 1, none⟩) (BRow.R_far (p := ⟨gb170, 0, none⟩) (BRow.R_types HO_3.out BK170.out (by decide)) (fun _ hk => hk.2) (.string ((rd_T56 l0_10 x131_5).f0))) (fun _ hk => hk.2) (.int .u64 ((rd_T56 l0_10 x131_5).f1.f0))) (fun _ hk => hk.2) (.int .u32 ((rd_T56 l0_10 x131_5).f1.f1))) (fun _ hk => hk.2) (.int .u8 ((rd_T56 l0_10 x131_5).f1.f2))) (fun _ hk => hk.2) (.int .u8 ((rd_T56 l0_10 x131_5).f2))) (fun _ hk => trivial)⟩
           have n1_ : Aside0 ((((((w94.setCell ⟨gb170, 0, none⟩ (.string ((rd_T56 l0_10 x131_5).f0))).setCell ⟨gb170, 1, none⟩ (.int .u64 ((rd_T56 l0_10 x131_5).f1.f0))).setCell ⟨gb170, 2, none⟩ (.int .u32 ((rd_T56 l0_10 x131_5).f1.f1))).setCell ⟨gb170, 3, none⟩ (.int .u8 ((rd_T56 l0_10 x131_5).f1.f2))).setCell ⟨gb170, 4, none⟩ (.int .u8 ((rd_T56 l0_10 x131_5).f2))).heap[gb121]? = some (.cells #[.int .u8 a0_0, .int .u8 a0_1, .int .u8 a0_2, .int .u32 a0_3, .int .u8 a0_4, .int .u8 a0_5, .bool a0_6, .slice A0_7 l0_7.length c0_7, .slice A0_8 l0_8.length c0_8, .slice A0_9 l0_9.length c0_9, .slice (some ad169) l0_10.length c0_10, .slice A0_11 l0_11.length c0_11] 29 (0, 0))) := ⟨by (with_reducible repeat (first | refine bN ?_ _ | refine bD ?_ | refine bA ?_ _)); refine blk_far ?_ NB121_170.out _; (with_reducible repeat (first | refine bN ?_ _ | refine bD ?_ | refine bA ?_ _)); refine blk_far ?_ NB121_170.out _; (with_reducible repeat (first | refine bN ?_ _ | refine bD ?_ | refine bA ?_ _)); refine blk_far ?_ NB121_170.out _; (with_reducible repeat (first | refine bN ?_ _ | refine bD ?_ | refine bA ?_ _)); refine blk_far ?_ NB121_170.out _; (with_reducible repeat (first | refine bN ?_ _ | refine bD ?_ | refine bA ?_ _)); refine blk_far ?_ NB121_170.out _; (with_reducible repeat (first | refine bN ?_ _ | refine bD ?_ | refine bA ?_ _)); exact BK121.out⟩
           have n2_ : Aside0 ((((((w94.setCell ⟨gb170, 0, none⟩ (.string ((rd_T56 l0_10 x131_5).f0))).setCell ⟨gb170, 1, none⟩ (.int .u64 ((rd_T56 l0_10 x131_5).f1.f0))).setCell ⟨gb170, 2, none⟩ (.int .u32 ((rd_T56 l0_10 x131_5).f1.f1))).setCell ⟨gb170, 3, none⟩ (.int .u8 ((rd_T56 l0_10 x131_5).f1.f2))).setCell ⟨gb170, 4, none⟩ (.int .u8 ((rd_T56 l0_10 x131_5).f2))).heap[gb170]? = some (.cells #[.string ((rd_T56 l0_10 x131_5).f0), .int .u64 ((rd_T56 l0_10 x131_5).f1.f0), .int .u32 ((rd_T56 l0_10 x131_5).f1.f1), .int .u8 ((rd_T56 l0_10 x131_5).f1.f2), .int .u8 ((rd_T56 l0_10 x131_5).f2)] 56 (0, 0))) := ⟨by (with_reducible repeat (first | refine bN ?_ _ | refine bD ?_ | refine bA ?_ _)); refine blk_put (cs := #[.string ((rd_T56 l0_10 x131_5).f0), .int .u64 ((rd_T56 l0_10 x131_5).f1.f0), .int .u32 ((rd_T56 l0_10 x131_5).f1.f1), .int .u8 ((rd_T56 l0_10 x131_5).f1.f2), .int .u8 0]) ?_ 4 _ rfl; (with_reducible repeat (first | refine bN ?_ _ | refine bD ?_ | refine bA ?_ _)); refine blk_put (cs := #[.string ((rd_T56 l0_10 x131_5).f0), .int .u64 ((rd_T56 l0_10 x131_5).f1.f0), .int .u32 ((rd_T56 l0_10 x131_5).f1.f1), .int .u8 0, .int .u8 0]) ?_ 3 _ rfl; (with_reducible repeat (first | refine bN ?_ _ | refine bD ?_ | refine bA ?_ _)); refine blk_put (cs := #[.string ((rd_T56 l0_10 x131_5).f0), .int .u64 ((rd_T56 l0_10 x131_5).f1.f0), .int .u32 0, .int .u8 0, .int .u8 0]) ?_ 2 _ rfl; (with_reducible repeat (first | refine bN ?_ _ | refine bD ?_ | refine bA ?_ _)); refine blk_put (cs := #[.string ((rd_T56 l0_10 x131_5).f0), .int .u64 0, .int .u32 0, .int .u8 0, .int .u8 0]) ?_ 1 _ rfl; (with_reducible repeat (first | refine bN ?_ _ | refine bD ?_ | refine bA ?_ _)); refine blk_put (cs := #[.string (⟨#[]⟩ : ByteArray), .int .u64 0, .int .u32 0, .int .u8 0, .int .u8 0]) ?_ 0 _ rfl; (with_reducible repeat (first | refine bN ?_ _ | refine bD ?_ | refine bA ?_ _)); exact BK170.out⟩
           have n3_ : Aside0 (Below w.heap.size w (((((w94.setCell ⟨gb170, 0, none⟩ (.string ((rd_T56 l0_10 x131_5).f0))).setCell ⟨gb170, 1, none⟩ (.int .u64 ((rd_T56 l0_10 x131_5).f1.f0))).setCell ⟨gb170, 2, none⟩ (.int .u32 ((rd_T56 l0_10 x131_5).f1.f1))).setCell ⟨gb170, 3, none⟩ (.int .u8 ((rd_T56 l0_10 x131_5).f1.f2))).setCell ⟨gb170, 4, none⟩ (.int .u8 ((rd_T56 l0_10 x131_5).f2)))) := ⟨by repeat (first | (with_reducible first | exact HB.out | apply qA | apply qN | apply qD | refine below_set ?_ GE121.out | refine below_set ?_ GE170.out) | exact HB.out)⟩
           (try clear HO_3)
           (try clear BK121)
           (try clear BK170)
           (try clear HB)
           generalize (((((w94.setCell ⟨gb170, 0, none⟩ (.string ((rd_T56 l0_10 x131_5).f0))).setCell ⟨gb170, 1, none⟩ (.int .u64 ((rd_T56 l0_10 x131_5).f1.f0))).setCell ⟨gb170, 2, none⟩ (.int .u32 ((rd_T56 l0_10 x131_5).f1.f1))).setCell ⟨gb170, 3, none⟩ (.int .u8 ((rd_T56 l0_10 x131_5).f1.f2))).setCell ⟨gb170, 4, none⟩ (.int .u8 ((rd_T56 l0_10 x131_5).f2))) = w97 at n0_ n1_ n2_ n3_ ⊢
           have HO_3 := n0_
           have BK121 := n1_
           have BK170 := n2_
           have HB := n3_
           clear n0_ n1_ n2_ n3_
           have n0_ := Aside0.mk (BRow.R_drew HO_3.out)
           have n1_ := Aside0.mk (blk_drew BK121.out)
           have n2_ := Aside0.mk (blk_drew BK170.out)
           have n3_ := Aside0.mk (below_drew1 HB.out)
           clear HO_3
           clear BK121
           clear BK170
           clear HB
           have HO_3 := n0_
           have BK121 := n1_
           have BK170 := n2_
           have HB := n3_
           clear n0_ n1_ n2_ n3_
           refine start_ (n := 28) (S := fun w' => w'.cell? ⟨gb170, 0, none⟩ = some (.string ((rd_T56 l0_10 x131_5).f0)) ∧ w'.cell? ⟨gb170, 1, none⟩ = some (.int .u64 ((rd_T56 l0_10 x131_5).f1.f0)) ∧ w'.cell? ⟨gb170, 2, none⟩ = some (.int .u32 ((rd_T56 l0_10 x131_5).f1.f1)) ∧ w'.cell? ⟨gb170, 3, none⟩ = some (.int .u8 ((rd_T56 l0_10 x131_5).f1.f2)) ∧ w'.cell? ⟨gb170, 4, none⟩ = some (.int .u8 ((rd_T56 l0_10 x131_5).f2))) (ds := []) #[false, false, false, false, false, false, false, false, false, false, false, false, false, false, false, false, false, false, false, false, false, false, false, false, false, false, false, false] (by kernel_rfl) rfl rfl ⟨(blk_cell BK170.out 0).trans rfl, (blk_cell BK170.out 1).trans rfl, (blk_cell BK170.out 2).trans rfl, (blk_cell BK170.out 3).trans rfl, (blk_cell BK170.out 4).trans rfl⟩ (fun hHeld => ?_); refine with_tabW tattlerref22_Body.tab30 tattlerref22_Body.bits30 (fun HT_ HW_ => ?_)
           generalize w97.drew = w98 at HO_3 BK121 BK170 HB hHeld ⊢
           refine pure_ (i := 0) (N := some 139) (v := ?_) (a' := ?_) #[true, false, false, false, false, false, false, false, false, false, false, false, false, false, false, false, false, false, false, false, false, false, false, false, false, false, false, false] rfl rfl (any_of HT_.out (by kernel_rfl)) (fun _ _ _ h => h) (Or.inl ⟨by rfl, ?_⟩) ?_ ?_
           rotate_left
           ·
            intro w'
            go_simp
            with_reducible rfl
           rotate_left
           ·
            simp only [Act.put, List.setIfInBounds_toArray, List.set_cons_zero, List.set_cons_succ, i64_w, i32_w]
            rfl
           refine pure_ (i := 1) (N := some 140) (v := ?_) (a' := ?_) #[true, true, false, false, false, false, false, false, false, false, false, false, false, false, false, false, false, false, false, false, false, false, false, false, false, false, false, false] rfl rfl (any_of HT_.out (by kernel_rfl)) (fun _ _ _ h => h) (Or.inl ⟨by rfl, ?_⟩) ?_ ?_
           rotate_left
           ·
            intro w'
            go_simp
            with_reducible rfl
           rotate_left
           ·
            simp only [Act.put, List.setIfInBounds_toArray, List.set_cons_zero, List.set_cons_succ, i64_w, i32_w]
            rfl
           refine pure_ (i := 4) (N := some 143) (v := ?_) (a' := ?_) #[true, true, false, false, true, false, false, false, false, false, false, false, false, false, false, false, false, false, false, false, false, false, false, false, false, false, false, false] rfl rfl (any_of HT_.out (by kernel_rfl)) (fun _ _ _ h => h) (Or.inl ⟨by rfl, ?_⟩) ?_ ?_
           rotate_left
           ·
            intro w'
            go_simp
            with_reducible rfl
           rotate_left
           ·
            simp only [Act.put, List.setIfInBounds_toArray, List.set_cons_zero, List.set_cons_succ, i64_w, i32_w]
            rfl
           refine pure_ (i := 5) (N := some 144) (v := ?_) (a' := ?_) #[true, true, false, false, true, true, false, false, false, false, false, false, false, false, false, false, false, false, false, false, false, false, false, false, false, false, false, false] rfl rfl (any_of HT_.out (by kernel_rfl)) (fun _ _ _ h => h) (Or.inl ⟨by rfl, ?_⟩) ?_ ?_
           rotate_left
           ·
            intro w'
            go_simp
            with_reducible rfl
           rotate_left
           ·
            simp only [Act.put, List.setIfInBounds_toArray, List.set_cons_zero, List.set_cons_succ, i64_w, i32_w]
            rfl
           refine pure_ (i := 9) (N := some 148) (v := ?_) (a' := ?_) #[true, true, false, false, true, true, false, false, false, true, false, false, false, false, false, false, false, false, false, false, false, false, false, false, false, false, false, false] rfl rfl (any_of HT_.out (by kernel_rfl)) (fun _ _ _ h => h) (Or.inl ⟨by rfl, ?_⟩) ?_ ?_
           rotate_left
           ·
            intro w'
            go_simp
            with_reducible rfl
           rotate_left
           ·
            simp only [Act.put, List.setIfInBounds_toArray, List.set_cons_zero, List.set_cons_succ, i64_w, i32_w]
            rfl
           refine pure_ (i := 10) (N := some 149) (v := ?_) (a' := ?_) #[true, true, false, false, true, true, false, false, false, true, true, false, false, false, false, false, false, false, false, false, false, false, false, false, false, false, false, false] rfl rfl (any_of HT_.out (by kernel_rfl)) (fun _ _ _ h => h) (Or.inl ⟨by rfl, ?_⟩) ?_ ?_
           rotate_left
           ·
            intro w'
            go_simp
            with_reducible rfl
           rotate_left
           ·
            simp only [Act.put, List.setIfInBounds_toArray, List.set_cons_zero, List.set_cons_succ, i64_w, i32_w]
            rfl
           refine pure_ (i := 15) (N := some 154) (v := ?_) (a' := ?_) #[true, true, false, false, true, true, false, false, false, true, true, false, false, false, false, true, false, false, false, false, false, false, false, false, false, false, false, false] rfl rfl (any_of HT_.out (by kernel_rfl)) (fun _ _ _ h => h) (Or.inl ⟨by rfl, ?_⟩) ?_ ?_
           rotate_left
           ·
            intro w'
            go_simp
            with_reducible rfl
           rotate_left
           ·
            simp only [Act.put, List.setIfInBounds_toArray, List.set_cons_zero, List.set_cons_succ, i64_w, i32_w]
            rfl
           refine pure_ (i := 16) (N := some 155) (v := ?_) (a' := ?_) #[true, true, false, false, true, true, false, false, false, true, true, false, false, false, false, true, true, false, false, false, false, false, false, false, false, false, false, false] rfl rfl (any_of HT_.out (by kernel_rfl)) (fun _ _ _ h => h) (Or.inl ⟨by rfl, ?_⟩) ?_ ?_
           rotate_left
           ·
            intro w'
            go_simp
            with_reducible rfl
           rotate_left
           ·
            simp only [Act.put, List.setIfInBounds_toArray, List.set_cons_zero, List.set_cons_succ, i64_w, i32_w]
            rfl
           refine pure_ (i := 21) (N := some 160) (v := ?_) (a' := ?_) #[true, true, false, false, true, true, false, false, false, true, true, false, false, false, false, true, true, false, false, false, false, true, false, false, false, false, false, false] rfl rfl (any_of HT_.out (by kernel_rfl)) (fun _ _ _ h => h) (Or.inl ⟨by rfl, ?_⟩) ?_ ?_
           rotate_left
           ·
            intro w'
            go_simp
            with_reducible rfl
           rotate_left
           ·
            simp only [Act.put, List.setIfInBounds_toArray, List.set_cons_zero, List.set_cons_succ, i64_w, i32_w]
            rfl
           refine take_ (i := 2) (N := some 141) (v := ?_) (a' := ?_) #[true, true, true, false, true, true, false, false, false, true, true, false, false, false, false, true, true, false, false, false, false, true, false, false, false, false, false, false] rfl rfl (take_ofW HT_.out HW_.out (by kernel_rfl)) (fun _ _ _ h => h) (Or.inl ⟨by rfl, ?_⟩) hHeld ?_ ?_
           rotate_left
           ·
            rintro w' ⟨s0, s1, s2, s3, s4⟩
            go_simp
            with_reducible rfl
           rotate_left
           ·
            simp only [Act.put, List.setIfInBounds_toArray, List.set_cons_zero, List.set_cons_succ, i64_w, i32_w]
            rfl
           refine take_ (i := 6) (N := some 145) (v := ?_) (a' := ?_) #[true, true, true, false, true, true, true, false, false, true, true, false, false, false, false, true, true, false, false, false, false, true, false, false, false, false, false, false] rfl rfl (take_ofW HT_.out HW_.out (by kernel_rfl)) (fun _ _ _ h => h) (Or.inl ⟨by rfl, ?_⟩) hHeld ?_ ?_
           rotate_left
           ·
            rintro w' ⟨s0, s1, s2, s3, s4⟩
            go_simp
            with_reducible rfl
           rotate_left
           ·
            simp only [Act.put, List.setIfInBounds_toArray, List.set_cons_zero, List.set_cons_succ, i64_w, i32_w]
            rfl
           refine take_ (i := 11) (N := some 150) (v := ?_) (a' := ?_) #[true, true, true, false, true, true, true, false, false, true, true, true, false, false, false, true, true, false, false, false, false, true, false, false, false, false, false, false] rfl rfl (take_ofW HT_.out HW_.out (by kernel_rfl)) (fun _ _ _ h => h) (Or.inl ⟨by rfl, ?_⟩) hHeld ?_ ?_
           rotate_left
           ·
            rintro w' ⟨s0, s1, s2, s3, s4⟩
            go_simp
            with_reducible rfl
           rotate_left
           ·
            simp only [Act.put, List.setIfInBounds_toArray, List.set_cons_zero, List.set_cons_succ, i64_w, i32_w]
            rfl
           refine pure_ (i := 12) (N := some 151) (v := ?_) (a' := ?_) #[true, true, true, false, true, true, true, false, false, true, true, true, true, false, false, true, true, false, false, false, false, true, false, false, false, false, false, false] rfl rfl (any_of HT_.out (by kernel_rfl)) (fun _ _ _ h => h) (Or.inl ⟨by rfl, ?_⟩) ?_ ?_
           rotate_left
           ·
            intro w'
            go_simp
            with_reducible rfl
           rotate_left
           ·
            simp only [Act.put, List.setIfInBounds_toArray, List.set_cons_zero, List.set_cons_succ, i64_w, i32_w]
            rfl
           refine take_ (i := 17) (N := some 156) (v := ?_) (a' := ?_) #[true, true, true, false, true, true, true, false, false, true, true, true, true, false, false, true, true, true, false, false, false, true, false, false, false, false, false, false] rfl rfl (take_ofW HT_.out HW_.out (by kernel_rfl)) (fun _ _ _ h => h) (Or.inl ⟨by rfl, ?_⟩) hHeld ?_ ?_
           rotate_left
           ·
            rintro w' ⟨s0, s1, s2, s3, s4⟩
            go_simp
            with_reducible rfl
           rotate_left
           ·
            simp only [Act.put, List.setIfInBounds_toArray, List.set_cons_zero, List.set_cons_succ, i64_w, i32_w]
            rfl
           refine pure_ (i := 18) (N := some 157) (v := ?_) (a' := ?_) #[true, true, true, false, true, true, true, false, false, true, true, true, true, false, false, true, true, true, true, false, false, true, false, false, false, false, false, false] rfl rfl (any_of HT_.out (by kernel_rfl)) (fun _ _ _ h => h) (Or.inl ⟨by rfl, ?_⟩) ?_ ?_
           rotate_left
           ·
            intro w'
            go_simp
            with_reducible rfl
           rotate_left
           ·
            simp only [Act.put, List.setIfInBounds_toArray, List.set_cons_zero, List.set_cons_succ, i64_w, i32_w]
            rfl
           refine take_ (i := 22) (N := some 161) (v := ?_) (a' := ?_) #[true, true, true, false, true, true, true, false, false, true, true, true, true, false, false, true, true, true, true, false, false, true, true, false, false, false, false, false] rfl rfl (take_ofW HT_.out HW_.out (by kernel_rfl)) (fun _ _ _ h => h) (Or.inl ⟨by rfl, ?_⟩) hHeld ?_ ?_
           rotate_left
           ·
            rintro w' ⟨s0, s1, s2, s3, s4⟩
            go_simp
            with_reducible rfl
           rotate_left
           ·
            simp only [Act.put, List.setIfInBounds_toArray, List.set_cons_zero, List.set_cons_succ, i64_w, i32_w]
            rfl
           refine pure_ (i := 23) (N := some 162) (v := ?_) (a' := ?_) #[true, true, true, false, true, true, true, false, false, true, true, true, true, false, false, true, true, true, true, false, false, true, true, true, false, false, false, false] rfl rfl (any_of HT_.out (by kernel_rfl)) (fun _ _ _ h => h) (Or.inl ⟨by rfl, ?_⟩) ?_ ?_
           rotate_left
           ·
            intro w'
            go_simp
            with_reducible rfl
           rotate_left
           ·
            simp only [Act.put, List.setIfInBounds_toArray, List.set_cons_zero, List.set_cons_succ, i64_w, i32_w]
            rfl
           refine one_ (i := 3) (N := some 142) #[true, true, true, true, true, true, true, false, false, true, true, true, true, false, false, true, true, true, true, false, false, true, true, true, false, false, false, false] rfl rfl (one_of HT_.out (by kernel_rfl)) (by decide) (fun K hK => ?_)
           refine goes_ Try.func70 (by kernel_rfl) rfl #[.string ((rd_T56 l0_10 x131_5).f0)] (by rfl) rfl rfl (by (try simp only [List.map_toArray, List.map_cons, List.map_nil]); first | done | rfl | (simp only [List.length_drop, List.length_take]; rfl)) ?_
           with_reducible refine (tattlerref03_Text.calls ((rd_T56 l0_10 x131_5).f0) t171 _ A83.out).mono ?_
           rintro e w99 ⟨rfl, hb⟩
           refine ⟨_, rfl, ?_⟩
           have n0_ := Aside0.mk (BRow.R_below (by (with_reducible repeat (first | apply BRow.rA | apply BRow.rN | apply BRow.rD)); exact HO_3.out) hb)
           have n1_ := Aside0.mk (blk_below (g := gb121) (o := .cells #[.int .u8 a0_0, .int .u8 a0_1, .int .u8 a0_2, .int .u32 a0_3, .int .u8 a0_4, .int .u8 a0_5, .bool a0_6, .slice A0_7 l0_7.length c0_7, .slice A0_8 l0_8.length c0_8, .slice A0_9 l0_9.length c0_9, .slice (some ad169) l0_10.length c0_10, .slice A0_11 l0_11.length c0_11] 29 (0, 0)) (by (with_reducible repeat (first | refine bN ?_ _ | refine bD ?_ | refine bA ?_ _)); exact BK121.out) hb)
           have n2_ := Aside0.mk (blk_below (g := gb170) (o := .cells #[.string ((rd_T56 l0_10 x131_5).f0), .int .u64 ((rd_T56 l0_10 x131_5).f1.f0), .int .u32 ((rd_T56 l0_10 x131_5).f1.f1), .int .u8 ((rd_T56 l0_10 x131_5).f1.f2), .int .u8 ((rd_T56 l0_10 x131_5).f2)] 56 (0, 0)) (by (with_reducible repeat (first | refine bN ?_ _ | refine bD ?_ | refine bA ?_ _)); exact BK170.out) hb)
           have n3_ := Aside0.mk (below_step (by repeat (first | (with_reducible first | exact HB.out | apply qA | apply qN | apply qD | refine below_set ?_ GE121.out | refine below_set ?_ GE170.out) | exact HB.out)) hb)
           clear HO_3
           clear BK121
           clear BK170
           clear HB
           have HO_3 := n0_
           have BK121 := n1_
           have BK170 := n2_
           have HB := n3_
           clear n0_ n1_ n2_ n3_
           (try clear hb)
           (try clear hb2)
           (try clear hk)
           (try clear hi)
           refine hK.out _ _ ⟨(blk_cell BK170.out 0).trans rfl, (blk_cell BK170.out 1).trans rfl, (blk_cell BK170.out 2).trans rfl, (blk_cell BK170.out 3).trans rfl, (blk_cell BK170.out 4).trans rfl⟩ (fun hHeld => ?_)
           clear hK K
           refine norm_ (a' := ?_) ?_ ?_
           rotate_left
           ·
            show Act.put _ (some 142) _ = _
            simp only [Act.put, List.setIfInBounds_toArray, List.set_cons_zero, List.set_cons_succ, i64_w, i32_w]
            rfl
           refine one_ (i := 7) (N := some 146) #[true, true, true, true, true, true, true, true, false, true, true, true, true, false, false, true, true, true, true, false, false, true, true, true, false, false, false, false] rfl rfl (one_of HT_.out (by kernel_rfl)) (by decide) (fun K hK => ?_)
           refine goes_ Try.func69 (by kernel_rfl) rfl #[.int .u64 ((rd_T56 l0_10 x131_5).f1.f0)] (by rfl) rfl rfl (by (try simp only [List.map_toArray, List.map_cons, List.map_nil]); first | done | rfl | (simp only [List.length_drop, List.length_take]; rfl)) ?_
           with_reducible refine (tattlerref22_put.calls ((rd_T56 l0_10 x131_5).f1.f0) t172 _ A84.out).mono ?_
           rintro e w100 ⟨rfl, hb⟩
           refine ⟨_, rfl, ?_⟩
           have n0_ := Aside0.mk (BRow.R_below (by (with_reducible repeat (first | apply BRow.rA | apply BRow.rN | apply BRow.rD)); exact HO_3.out) hb)
           have n1_ := Aside0.mk (blk_below (g := gb121) (o := .cells #[.int .u8 a0_0, .int .u8 a0_1, .int .u8 a0_2, .int .u32 a0_3, .int .u8 a0_4, .int .u8 a0_5, .bool a0_6, .slice A0_7 l0_7.length c0_7, .slice A0_8 l0_8.length c0_8, .slice A0_9 l0_9.length c0_9, .slice (some ad169) l0_10.length c0_10, .slice A0_11 l0_11.length c0_11] 29 (0, 0)) (by (with_reducible repeat (first | refine bN ?_ _ | refine bD ?_ | refine bA ?_ _)); exact BK121.out) hb)
           have n2_ := Aside0.mk (blk_below (g := gb170) (o := .cells #[.string ((rd_T56 l0_10 x131_5).f0), .int .u64 ((rd_T56 l0_10 x131_5).f1.f0), .int .u32 ((rd_T56 l0_10 x131_5).f1.f1), .int .u8 ((rd_T56 l0_10 x131_5).f1.f2), .int .u8 ((rd_T56 l0_10 x131_5).f2)] 56 (0, 0)) (by (with_reducible repeat (first | refine bN ?_ _ | refine bD ?_ | refine bA ?_ _)); exact BK170.out) hb)
           have n3_ := Aside0.mk (below_step (by repeat (first | (with_reducible first | exact HB.out | apply qA | apply qN | apply qD | refine below_set ?_ GE121.out | refine below_set ?_ GE170.out) | exact HB.out)) hb)
           clear HO_3
           clear BK121
           clear BK170
           clear HB
           have HO_3 := n0_
           have BK121 := n1_
           have BK170 := n2_
           have HB := n3_
           clear n0_ n1_ n2_ n3_
           (try clear hb)
           (try clear hb2)
           (try clear hk)
           (try clear hi)
           refine hK.out _ _ ⟨(blk_cell BK170.out 0).trans rfl, (blk_cell BK170.out 1).trans rfl, (blk_cell BK170.out 2).trans rfl, (blk_cell BK170.out 3).trans rfl, (blk_cell BK170.out 4).trans rfl⟩ (fun hHeld => ?_)
           clear hK K
           refine norm_ (a' := ?_) ?_ ?_
           rotate_left
           ·
            show Act.put _ (some 146) _ = _
            simp only [Act.put, List.setIfInBounds_toArray, List.set_cons_zero, List.set_cons_succ, i64_w, i32_w]
            rfl
           refine pure_ (i := 8) (N := some 147) (v := ?_) (a' := ?_) #[true, true, true, true, true, true, true, true, true, true, true, true, true, false, false, true, true, true, true, false, false, true, true, true, false, false, false, false] rfl rfl (any_of HT_.out (by kernel_rfl)) (fun _ _ _ h => h) (Or.inl ⟨by rfl, ?_⟩) ?_ ?_
           rotate_left
           ·
            intro w'
            go_simp
            with_reducible rfl
           rotate_left
           ·
            simp only [Act.put, List.setIfInBounds_toArray, List.set_cons_zero, List.set_cons_succ, i64_w, i32_w]
            rfl
           refine one_ (i := 13) (N := some 152) #[true, true, true, true, true, true, true, true, true, true, true, true, true, true, false, true, true, true, true, false, false, true, true, true, false, false, false, false] rfl rfl (one_of HT_.out (by kernel_rfl)) (by decide) (fun K hK => ?_)
           refine goes_ Try.func69 (by kernel_rfl) rfl #[.int .u64 (IntKind.u64.wrap ((rd_T56 l0_10 x131_5).f1.f1))] (by rfl) rfl rfl (by (try simp only [List.map_toArray, List.map_cons, List.map_nil]); first | done | rfl | (simp only [List.length_drop, List.length_take]; rfl)) ?_
           with_reducible refine (tattlerref22_put.calls (IntKind.u64.wrap ((rd_T56 l0_10 x131_5).f1.f1)) t173 _ A86.out).mono ?_
           rintro e w101 ⟨rfl, hb⟩
           refine ⟨_, rfl, ?_⟩
           have n0_ := Aside0.mk (BRow.R_below (by (with_reducible repeat (first | apply BRow.rA | apply BRow.rN | apply BRow.rD)); exact HO_3.out) hb)
           have n1_ := Aside0.mk (blk_below (g := gb121) (o := .cells #[.int .u8 a0_0, .int .u8 a0_1, .int .u8 a0_2, .int .u32 a0_3, .int .u8 a0_4, .int .u8 a0_5, .bool a0_6, .slice A0_7 l0_7.length c0_7, .slice A0_8 l0_8.length c0_8, .slice A0_9 l0_9.length c0_9, .slice (some ad169) l0_10.length c0_10, .slice A0_11 l0_11.length c0_11] 29 (0, 0)) (by (with_reducible repeat (first | refine bN ?_ _ | refine bD ?_ | refine bA ?_ _)); exact BK121.out) hb)
           have n2_ := Aside0.mk (blk_below (g := gb170) (o := .cells #[.string ((rd_T56 l0_10 x131_5).f0), .int .u64 ((rd_T56 l0_10 x131_5).f1.f0), .int .u32 ((rd_T56 l0_10 x131_5).f1.f1), .int .u8 ((rd_T56 l0_10 x131_5).f1.f2), .int .u8 ((rd_T56 l0_10 x131_5).f2)] 56 (0, 0)) (by (with_reducible repeat (first | refine bN ?_ _ | refine bD ?_ | refine bA ?_ _)); exact BK170.out) hb)
           have n3_ := Aside0.mk (below_step (by repeat (first | (with_reducible first | exact HB.out | apply qA | apply qN | apply qD | refine below_set ?_ GE121.out | refine below_set ?_ GE170.out) | exact HB.out)) hb)
           clear HO_3
           clear BK121
           clear BK170
           clear HB
           have HO_3 := n0_
           have BK121 := n1_
           have BK170 := n2_
           have HB := n3_
           clear n0_ n1_ n2_ n3_
           (try clear hb)
           (try clear hb2)
           (try clear hk)
           (try clear hi)
           refine hK.out _ _ ⟨(blk_cell BK170.out 0).trans rfl, (blk_cell BK170.out 1).trans rfl, (blk_cell BK170.out 2).trans rfl, (blk_cell BK170.out 3).trans rfl, (blk_cell BK170.out 4).trans rfl⟩ (fun hHeld => ?_)
           clear hK K
           refine norm_ (a' := ?_) ?_ ?_
           rotate_left
           ·
            show Act.put _ (some 152) _ = _
            simp only [Act.put, List.setIfInBounds_toArray, List.set_cons_zero, List.set_cons_succ, i64_w, i32_w]
            rfl
           refine pure_ (i := 14) (N := some 153) (v := ?_) (a' := ?_) #[true, true, true, true, true, true, true, true, true, true, true, true, true, true, true, true, true, true, true, false, false, true, true, true, false, false, false, false] rfl rfl (any_of HT_.out (by kernel_rfl)) (fun _ _ _ h => h) (Or.inl ⟨by rfl, ?_⟩) ?_ ?_
           rotate_left
           ·
            intro w'
            go_simp
            with_reducible rfl
           rotate_left
           ·
            simp only [Act.put, List.setIfInBounds_toArray, List.set_cons_zero, List.set_cons_succ, i64_w, i32_w]
            rfl
           refine one_ (i := 19) (N := some 158) #[true, true, true, true, true, true, true, true, true, true, true, true, true, true, true, true, true, true, true, true, false, true, true, true, false, false, false, false] rfl rfl (one_of HT_.out (by kernel_rfl)) (by decide) (fun K hK => ?_)
           refine goes_ Try.func69 (by kernel_rfl) rfl #[.int .u64 (IntKind.u64.wrap ((rd_T56 l0_10 x131_5).f1.f2))] (by rfl) rfl rfl (by (try simp only [List.map_toArray, List.map_cons, List.map_nil]); first | done | rfl | (simp only [List.length_drop, List.length_take]; rfl)) ?_
           with_reducible refine (tattlerref22_put.calls (IntKind.u64.wrap ((rd_T56 l0_10 x131_5).f1.f2)) t174 _ A88.out).mono ?_
           rintro e w102 ⟨rfl, hb⟩
           refine ⟨_, rfl, ?_⟩
           have n0_ := Aside0.mk (BRow.R_below (by (with_reducible repeat (first | apply BRow.rA | apply BRow.rN | apply BRow.rD)); exact HO_3.out) hb)
           have n1_ := Aside0.mk (blk_below (g := gb121) (o := .cells #[.int .u8 a0_0, .int .u8 a0_1, .int .u8 a0_2, .int .u32 a0_3, .int .u8 a0_4, .int .u8 a0_5, .bool a0_6, .slice A0_7 l0_7.length c0_7, .slice A0_8 l0_8.length c0_8, .slice A0_9 l0_9.length c0_9, .slice (some ad169) l0_10.length c0_10, .slice A0_11 l0_11.length c0_11] 29 (0, 0)) (by (with_reducible repeat (first | refine bN ?_ _ | refine bD ?_ | refine bA ?_ _)); exact BK121.out) hb)
           have n2_ := Aside0.mk (blk_below (g := gb170) (o := .cells #[.string ((rd_T56 l0_10 x131_5).f0), .int .u64 ((rd_T56 l0_10 x131_5).f1.f0), .int .u32 ((rd_T56 l0_10 x131_5).f1.f1), .int .u8 ((rd_T56 l0_10 x131_5).f1.f2), .int .u8 ((rd_T56 l0_10 x131_5).f2)] 56 (0, 0)) (by (with_reducible repeat (first | refine bN ?_ _ | refine bD ?_ | refine bA ?_ _)); exact BK170.out) hb)
           have n3_ := Aside0.mk (below_step (by repeat (first | (with_reducible first | exact HB.out | apply qA | apply qN | apply qD | refine below_set ?_ GE121.out | refine below_set ?_ GE170.out) | exact HB.out)) hb)
           clear HO_3
           clear BK121
           clear BK170
           clear HB
           have HO_3 := n0_
           have BK121 := n1_
           have BK170 := n2_
           have HB := n3_
           clear n0_ n1_ n2_ n3_
           (try clear hb)
           (try clear hb2)
           (try clear hk)
           (try clear hi)
           refine hK.out _ _ ⟨(blk_cell BK170.out 0).trans rfl, (blk_cell BK170.out 1).trans rfl, (blk_cell BK170.out 2).trans rfl, (blk_cell BK170.out 3).trans rfl, (blk_cell BK170.out 4).trans rfl⟩ (fun hHeld => ?_)
           clear hK K
           refine norm_ (a' := ?_) ?_ ?_
           rotate_left
           ·
            show Act.put _ (some 158) _ = _
            simp only [Act.put, List.setIfInBounds_toArray, List.set_cons_zero, List.set_cons_succ, i64_w, i32_w]
            rfl
           refine pure_ (i := 20) (N := some 159) (v := ?_) (a' := ?_) #[true, true, true, true, true, true, true, true, true, true, true, true, true, true, true, true, true, true, true, true, true, true, true, true, false, false, false, false] rfl rfl (any_of HT_.out (by kernel_rfl)) (fun _ _ _ h => h) (Or.inl ⟨by rfl, ?_⟩) ?_ ?_
           rotate_left
           ·
            intro w'
            go_simp
            with_reducible rfl
           rotate_left
           ·
            simp only [Act.put, List.setIfInBounds_toArray, List.set_cons_zero, List.set_cons_succ, i64_w, i32_w]
            rfl
           refine one_ (i := 24) (N := some 163) #[true, true, true, true, true, true, true, true, true, true, true, true, true, true, true, true, true, true, true, true, true, true, true, true, true, false, false, false] rfl rfl (one_of HT_.out (by kernel_rfl)) (by decide) (fun K hK => ?_)
           refine goes_ Try.func69 (by kernel_rfl) rfl #[.int .u64 (IntKind.u64.wrap ((rd_T56 l0_10 x131_5).f2))] (by rfl) rfl rfl (by (try simp only [List.map_toArray, List.map_cons, List.map_nil]); first | done | rfl | (simp only [List.length_drop, List.length_take]; rfl)) ?_
           with_reducible refine (tattlerref22_put.calls (IntKind.u64.wrap ((rd_T56 l0_10 x131_5).f2)) t175 _ A90.out).mono ?_
           rintro e w103 ⟨rfl, hb⟩
           refine ⟨_, rfl, ?_⟩
           have n0_ := Aside0.mk (BRow.R_below (by (with_reducible repeat (first | apply BRow.rA | apply BRow.rN | apply BRow.rD)); exact HO_3.out) hb)
           have n1_ := Aside0.mk (blk_below (g := gb121) (o := .cells #[.int .u8 a0_0, .int .u8 a0_1, .int .u8 a0_2, .int .u32 a0_3, .int .u8 a0_4, .int .u8 a0_5, .bool a0_6, .slice A0_7 l0_7.length c0_7, .slice A0_8 l0_8.length c0_8, .slice A0_9 l0_9.length c0_9, .slice (some ad169) l0_10.length c0_10, .slice A0_11 l0_11.length c0_11] 29 (0, 0)) (by (with_reducible repeat (first | refine bN ?_ _ | refine bD ?_ | refine bA ?_ _)); exact BK121.out) hb)
           have n2_ := Aside0.mk (blk_below (g := gb170) (o := .cells #[.string ((rd_T56 l0_10 x131_5).f0), .int .u64 ((rd_T56 l0_10 x131_5).f1.f0), .int .u32 ((rd_T56 l0_10 x131_5).f1.f1), .int .u8 ((rd_T56 l0_10 x131_5).f1.f2), .int .u8 ((rd_T56 l0_10 x131_5).f2)] 56 (0, 0)) (by (with_reducible repeat (first | refine bN ?_ _ | refine bD ?_ | refine bA ?_ _)); exact BK170.out) hb)
           have n3_ := Aside0.mk (below_step (by repeat (first | (with_reducible first | exact HB.out | apply qA | apply qN | apply qD | refine below_set ?_ GE121.out | refine below_set ?_ GE170.out) | exact HB.out)) hb)
           clear HO_3
           clear BK121
           clear BK170
           clear HB
           have HO_3 := n0_
           have BK121 := n1_
           have BK170 := n2_
           have HB := n3_
           clear n0_ n1_ n2_ n3_
           (try clear hb)
           (try clear hb2)
           (try clear hk)
           (try clear hi)
           refine hK.out _ _ ⟨(blk_cell BK170.out 0).trans rfl, (blk_cell BK170.out 1).trans rfl, (blk_cell BK170.out 2).trans rfl, (blk_cell BK170.out 3).trans rfl, (blk_cell BK170.out 4).trans rfl⟩ (fun hHeld => ?_)
           clear hK K
           refine norm_ (a' := ?_) ?_ ?_
           rotate_left
           ·
            show Act.put _ (some 163) _ = _
            simp only [Act.put, List.setIfInBounds_toArray, List.set_cons_zero, List.set_cons_succ, i64_w, i32_w]
            rfl
           refine pure_ (i := 25) (N := some 164) (v := ?_) (a' := ?_) #[true, true, true, true, true, true, true, true, true, true, true, true, true, true, true, true, true, true, true, true, true, true, true, true, true, true, false, false] rfl rfl (any_of HT_.out (by kernel_rfl)) (fun _ _ _ h => h) (Or.inl ⟨by rfl, ?_⟩) ?_ ?_
           rotate_left
           ·
            intro w'
            go_simp
            with_reducible rfl
           rotate_left
           ·
            simp only [Act.put, List.setIfInBounds_toArray, List.set_cons_zero, List.set_cons_succ, i64_w, i32_w]
            rfl
           refine one_ (i := 26) (N := some 165) #[true, true, true, true, true, true, true, true, true, true, true, true, true, true, true, true, true, true, true, true, true, true, true, true, true, true, true, false] rfl rfl (one_of HT_.out (by kernel_rfl)) (by decide) (fun K hK => ?_)
           refine BRow.append_str_step (w0 := w) w.heap.size (by rfl) (.tmp 139) _ 63 9 5 rfl Try.underlying63 Try.underlying9 info5 u3 x3_5 ((((t171 ++ t172) ++ t173) ++ t174) ++ t175) rfl rfl ?aO ?aB ?aS ?aL ?_
           (case aB => exact (by repeat (first | (with_reducible first | exact HB.out | apply qA | apply qN | apply qD | refine below_set ?_ GE121.out | refine below_set ?_ GE170.out) | exact HB.out)))
           (case aO => exact (BRow.own_of_R (by (with_reducible repeat (first | apply BRow.rA | apply BRow.rN | apply BRow.rD)); exact HO_3.out)))
           (case aS => exact (below_size (by repeat (first | (with_reducible first | exact HB.out | apply qA | apply qN | apply qD | refine below_set ?_ GE121.out | refine below_set ?_ GE170.out) | exact HB.out))))
           (case aL => have := LMc92.out; omega)
           intro v177 w104 ho0 hb hg
           have ho := BRow.R_of_own (ok := fun _ => True) ho0 (fun _ _ => trivial)
           clear ho0
           have hat := True.intro
           rw [← Ny176.out] at ho
           change BRow.R 5 w104 w.heap.size (fun _ => True) v177 y176 at ho
           have n0_ := Aside0.mk (blk_grown (g := gb121) (o := .cells #[.int .u8 a0_0, .int .u8 a0_1, .int .u8 a0_2, .int .u32 a0_3, .int .u8 a0_4, .int .u8 a0_5, .bool a0_6, .slice A0_7 l0_7.length c0_7, .slice A0_8 l0_8.length c0_8, .slice A0_9 l0_9.length c0_9, .slice (some ad169) l0_10.length c0_10, .slice A0_11 l0_11.length c0_11] 29 (0, 0)) (by (with_reducible repeat (first | refine bN ?_ _ | refine bD ?_ | refine bA ?_ _)); exact BK121.out) hg (BRow.R_ne HO_3.out BK121.out (by decide)))
           have n1_ := Aside0.mk (blk_grown (g := gb170) (o := .cells #[.string ((rd_T56 l0_10 x131_5).f0), .int .u64 ((rd_T56 l0_10 x131_5).f1.f0), .int .u32 ((rd_T56 l0_10 x131_5).f1.f1), .int .u8 ((rd_T56 l0_10 x131_5).f1.f2), .int .u8 ((rd_T56 l0_10 x131_5).f2)] 56 (0, 0)) (by (with_reducible repeat (first | refine bN ?_ _ | refine bD ?_ | refine bA ?_ _)); exact BK170.out) hg (BRow.R_ne HO_3.out BK170.out (by decide)))
           have n2_ := Aside0.mk (hb)
           have n3_ := Aside0.mk (ho)
           clear BK121
           clear BK170
           clear HB
           clear HO_3
           have BK121 := n0_
           have BK170 := n1_
           have HB := n2_
           have HO178 := n3_
           clear n0_ n1_ n2_ n3_
           clear ho hb hg hat
           refine hK.out _ _ ⟨(blk_cell BK170.out 0).trans rfl, (blk_cell BK170.out 1).trans rfl, (blk_cell BK170.out 2).trans rfl, (blk_cell BK170.out 3).trans rfl, (blk_cell BK170.out 4).trans rfl⟩ (fun hHeld => ?_)
           clear hK K
           refine norm_ (a' := ?_) ?_ ?_
           rotate_left
           ·
            show Act.put _ (some 165) _ = _
            simp only [Act.put, List.setIfInBounds_toArray, List.set_cons_zero, List.set_cons_succ, i64_w, i32_w]
            rfl
           refine pure_ (i := 27) (N := some 3) (v := ?_) (a' := ?_) #[true, true, true, true, true, true, true, true, true, true, true, true, true, true, true, true, true, true, true, true, true, true, true, true, true, true, true, true] rfl rfl (any_of HT_.out (by kernel_rfl)) (fun _ _ _ h => h) (Or.inl ⟨by rfl, ?_⟩) ?_ ?_
           rotate_left
           ·
            intro w'
            go_simp
            with_reducible rfl
           rotate_left
           ·
            simp only [Act.put, List.setIfInBounds_toArray, List.set_cons_zero, List.set_cons_succ, i64_w, i32_w]
            rfl
           refine done_ (done_of HT_.out (by kernel_rfl)) ?_
           try go_wp2
           go_roundg k5
           case measure => have := HJ7.out; have := HK2.out; have := HK3.out; have := HK4.out; have := HK5.out; omega
           case rel => exact ⟨(y176), (wrap64 (x131_5 + 1)), (by first | rfl | (simp; done) | (simp [*]; done)), H', ⟨by have := HJ7.out; have := HK2.out; have := HK3.out; have := HK4.out; have := HK5.out; omega⟩, ⟨by (with_reducible repeat (first | apply BRow.rA | apply BRow.rN | apply BRow.rD)); exact HO178.out⟩, ⟨by (with_reducible repeat (first | refine bN ?_ _ | refine bD ?_ | refine bA ?_ _)); exact BK121.out⟩, ⟨by repeat (first | (with_reducible first | exact HB.out | apply qA | apply qN | apply qD | refine below_set ?_ GE121.out | refine below_set ?_ GE170.out) | exact HB.out)⟩⟩

end Go.Proofs.Ytdjompbhlkgmbaa.PMsg
end

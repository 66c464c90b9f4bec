/- Contracts written by this session's program myprint.py by way of the kit's print. -/
import Derived.Test.YtanjahakoadecaaDoorPd0
import Derived.Test.YtanjahakoadecaaDoorHCrcZ
import Derived.Test.YtanjahakoadecaaDoorPc4
import Derived.Test.YtanjahakoadecaaDoorPc7
namespace Go.Proofs.YtanjahakoadecaaDoor.Pd
open Go.RowKit Go.Proofs.YtanjahakoadecaaDoor.Pc Go.Proofs.YtanjahakoadecaaDoor.Hand Go.Proofs.YtanjahakoadecaaDoorW.PrintWords Go.Proofs.YtanjahakoadecaaDoorW.PrintLast Go.Proofs.YtanjahakoadecaaDoorW.PrintMore
attribute [local go_sem] max2_int min2_int max_two min_two max_three min_three max_four min_four   -- for this text's walks alone
set_option linter.unusedVariables false
set_option linter.unusedSimpArgs false

/-! ### tallysticklaw14_CrcRecords: function 6 -/
def tallysticklaw14_CrcRecords.j0 : Nat → ByteArray → Bool → ByteArray → Int → ByteArray → Int → Int → Int → Int → Int → Bool → Int → Int → Int → Int → Int → List Int → List Int → List Int → Bool → Int → Int → Int → Int → Int → List Int → List Int → List Int → Bool → Option (Bool)
  | 0, _, _, _, _, _, _, _, _, _, _, _, _, _, _, _, _, _, _, _, _, _, _, _, _, _, _, _, _, _ => none
  | k + 1, x4, x7, x8, x9, x10, x11, x13, x15, x17, x19, x20, x200000, x200001, x200002, x200003, x200004, x200005, x200006, x200007, x200008, x202000, x202001, x202002, x202003, x202004, x202005, x202006, x202007, x202008 => if x7 = true then (if x8.toList = x10.toList then (if x9 = x11 then (if x20 = true then (if x13 = x15 then (if x17 = x19 then ((crc_Sum.f x4).bind fun t271 => ((tallystickref14_Sum.f k x4).bind fun t272 => (if t271 = t272 then ((crc_Same.f k x200000 x200001 x200002 x200003 x200004 x200005 x200006 x200007 x200008 x202000 x202001 x202002 x202003 x202004 x202005 x202006 x202007 x202008).bind fun t273 => ((tallystickref14_Same.f k x200000 x200001 x200002 x200003 x200004 x200005 x200006 x200007 x200008 x202000 x202001 x202002 x202003 x202004 x202005 x202006 x202007 x202008).bind fun t274 => (some (t273 == t274)))) else (some false)))) else (some false)) else (some false)) else (some false)) else (some false)) else (some false)) else (some false)
def tallysticklaw14_CrcRecords.f (k : Nat) (a0_0 : Int) (a0_1 : Int) (a0_2 : Int) (a0_3 : Int) (a0_4 : Int) (l0_5 : List Int) (l0_6 : List Int) (l0_7 : List Int) (a0_8 : Bool) (a0_9 : ByteArray) (a0_10 : Int) (a0_11 : Int) (a0_12 : Int) (a0_13 : Int) (a0_14 : Int) (a0_15 : Int) (a0_16 : Int) (a0_17 : Int) (l0_18 : List Int) (l0_19 : List Int) (l0_20 : List Int) (a0_21 : Bool) : Option (Bool) := (tallysticklaw14_shown.f).bind fun t202 => ((crc_Bytes.f k a0_0 a0_1 a0_2 a0_3 a0_4 l0_5 l0_6 l0_7 a0_8).bind fun bt203 => ((tallystickref14_Bytes.f k a0_0 a0_1 a0_2 a0_3 a0_4 l0_5 l0_6 l0_7 a0_8).bind fun bt205 => ((crc_Take.f a0_9).bind fun bt207 => ((tallystickref14_Take.f a0_9).bind fun bt224 => ((crc_Of.f a0_9 a0_10 a0_11 a0_12).bind fun bt241 => ((tallystickref14_Of.f a0_9 a0_10 a0_11 a0_12).bind fun bt255 => ((tallystickref14_Same.f k bt207.1 bt207.2.1 bt207.2.2.1 bt207.2.2.2.1 bt207.2.2.2.2.1 bt207.2.2.2.2.2.1 bt207.2.2.2.2.2.2.1 bt207.2.2.2.2.2.2.2.1 bt207.2.2.2.2.2.2.2.2.1 bt224.1 bt224.2.1 bt224.2.2.1 bt224.2.2.2.1 bt224.2.2.2.2.1 bt224.2.2.2.2.2.1 bt224.2.2.2.2.2.2.1 bt224.2.2.2.2.2.2.2.1 bt224.2.2.2.2.2.2.2.2.1).bind fun t269 => (if t269 = true then ((tallystickref14_SamePart.f k bt241.1 bt241.2.1 bt241.2.2.1 bt241.2.2.2.1 bt241.2.2.2.2.1 bt241.2.2.2.2.2.1 bt255.1 bt255.2.1 bt255.2.2.1 bt255.2.2.2.1 bt255.2.2.2.2.1 bt255.2.2.2.2.2.1).bind fun t270 => (tallysticklaw14_CrcRecords.j0 k a0_9 t202 bt203.1 bt203.2 bt205.1 bt205.2 bt207.2.2.2.2.2.2.2.2.2 bt224.2.2.2.2.2.2.2.2.2 bt241.2.2.2.2.2.2 bt255.2.2.2.2.2.2 t270 a0_0 a0_1 a0_2 a0_3 a0_4 l0_5 l0_6 l0_7 a0_8 a0_13 a0_14 a0_15 a0_16 a0_17 l0_18 l0_19 l0_20 a0_21)) else (tallysticklaw14_CrcRecords.j0 k a0_9 t202 bt203.1 bt203.2 bt205.1 bt205.2 bt207.2.2.2.2.2.2.2.2.2 bt224.2.2.2.2.2.2.2.2.2 bt241.2.2.2.2.2.2 bt255.2.2.2.2.2.2 false a0_0 a0_1 a0_2 a0_3 a0_4 l0_5 l0_6 l0_7 a0_8 a0_13 a0_14 a0_15 a0_16 a0_17 l0_18 l0_19 l0_20 a0_21)))))))))
theorem tallysticklaw14_CrcRecords.mono_l : ∀ k, (∀ y0 y1 y2 y3 y4 y5 y6 y7 y8 y9 y10 y11 y12 y13 y14 y15 y16 y17 y18 y19 y20 y21 y22 y23 y24 y25 y26 y27 y28, LeO (tallysticklaw14_CrcRecords.j0 k y0 y1 y2 y3 y4 y5 y6 y7 y8 y9 y10 y11 y12 y13 y14 y15 y16 y17 y18 y19 y20 y21 y22 y23 y24 y25 y26 y27 y28) (tallysticklaw14_CrcRecords.j0 (k + 1) y0 y1 y2 y3 y4 y5 y6 y7 y8 y9 y10 y11 y12 y13 y14 y15 y16 y17 y18 y19 y20 y21 y22 y23 y24 y25 y26 y27 y28))
  | 0 => fun _ _ _ _ _ _ _ _ _ _ _ _ _ _ _ _ _ _ _ _ _ _ _ _ _ _ _ _ _ r h => by simp [tallysticklaw14_CrcRecords.j0] at h
  | k + 1 => by
    have ih0 := tallysticklaw14_CrcRecords.mono_l k
    · intro y0 y1 y2 y3 y4 y5 y6 y7 y8 y9 y10 y11 y12 y13 y14 y15 y16 y17 y18 y19 y20 y21 y22 y23 y24 y25 y26 y27 y28
      unfold tallysticklaw14_CrcRecords.j0
      repeat' first
      | (with_reducible exact ih0 _ _ _ _ _ _ _ _ _ _ _ _ _ _ _ _ _ _ _ _ _ _ _ _ _ _ _ _ _)
      | (with_reducible exact crc_Bytes.mono _ _ _ _ _ _ _ _ _ _)
      | (with_reducible exact crc_Same.mono _ _ _ _ _ _ _ _ _ _ _ _ _ _ _ _ _ _ _)
      | (with_reducible exact tallystickref14_Bytes.mono _ _ _ _ _ _ _ _ _ _)
      | (with_reducible exact tallystickref14_Same.mono _ _ _ _ _ _ _ _ _ _ _ _ _ _ _ _ _ _ _)
      | (with_reducible exact tallystickref14_SamePart.mono _ _ _ _ _ _ _ _ _ _ _ _ _)
      | (with_reducible exact tallystickref14_Sum.mono _ _)
      | (with_reducible exact LeO.refl _)
      | (with_reducible exact LeO.none _)
      | (with_reducible refine LeO.ite ?_ ?_)
      | (with_reducible refine LeO.bind ?_ (fun _ => ?_))
      | exact ih0 _ _ _ _ _ _ _ _ _ _ _ _ _ _ _ _ _ _ _ _ _ _ _ _ _ _ _ _ _
      | exact crc_Bytes.mono _ _ _ _ _ _ _ _ _ _
      | exact crc_Same.mono _ _ _ _ _ _ _ _ _ _ _ _ _ _ _ _ _ _ _
      | exact tallystickref14_Bytes.mono _ _ _ _ _ _ _ _ _ _
      | exact tallystickref14_Same.mono _ _ _ _ _ _ _ _ _ _ _ _ _ _ _ _ _ _ _
      | exact tallystickref14_SamePart.mono _ _ _ _ _ _ _ _ _ _ _ _ _
      | exact tallystickref14_Sum.mono _ _
      | exact LeO.none _
      | refine LeO.ite ?_ ?_
      | refine LeO.bind ?_ (fun _ => ?_)
theorem tallysticklaw14_CrcRecords.mono : ∀ a0 a1 a2 a3 a4 a5 a6 a7 a8 a9 a10 a11 a12 a13 a14 a15 a16 a17 a18 a19 a20 a21 k, LeO (tallysticklaw14_CrcRecords.f k a0 a1 a2 a3 a4 a5 a6 a7 a8 a9 a10 a11 a12 a13 a14 a15 a16 a17 a18 a19 a20 a21) (tallysticklaw14_CrcRecords.f (k + 1) a0 a1 a2 a3 a4 a5 a6 a7 a8 a9 a10 a11 a12 a13 a14 a15 a16 a17 a18 a19 a20 a21) := by
  intro a0 a1 a2 a3 a4 a5 a6 a7 a8 a9 a10 a11 a12 a13 a14 a15 a16 a17 a18 a19 a20 a21 k
  have ih0 := tallysticklaw14_CrcRecords.mono_l k
  unfold tallysticklaw14_CrcRecords.f
  repeat' first
      | (with_reducible exact ih0 _ _ _ _ _ _ _ _ _ _ _ _ _ _ _ _ _ _ _ _ _ _ _ _ _ _ _ _ _)
      | (with_reducible exact crc_Bytes.mono _ _ _ _ _ _ _ _ _ _)
      | (with_reducible exact crc_Same.mono _ _ _ _ _ _ _ _ _ _ _ _ _ _ _ _ _ _ _)
      | (with_reducible exact tallystickref14_Bytes.mono _ _ _ _ _ _ _ _ _ _)
      | (with_reducible exact tallystickref14_Same.mono _ _ _ _ _ _ _ _ _ _ _ _ _ _ _ _ _ _ _)
      | (with_reducible exact tallystickref14_SamePart.mono _ _ _ _ _ _ _ _ _ _ _ _ _)
      | (with_reducible exact tallystickref14_Sum.mono _ _)
      | (with_reducible exact LeO.refl _)
      | (with_reducible exact LeO.none _)
      | (with_reducible refine LeO.ite ?_ ?_)
      | (with_reducible refine LeO.bind ?_ (fun _ => ?_))
      | exact ih0 _ _ _ _ _ _ _ _ _ _ _ _ _ _ _ _ _ _ _ _ _ _ _ _ _ _ _ _ _
      | exact crc_Bytes.mono _ _ _ _ _ _ _ _ _ _
      | exact crc_Same.mono _ _ _ _ _ _ _ _ _ _ _ _ _ _ _ _ _ _ _
      | exact tallystickref14_Bytes.mono _ _ _ _ _ _ _ _ _ _
      | exact tallystickref14_Same.mono _ _ _ _ _ _ _ _ _ _ _ _ _ _ _ _ _ _ _
      | exact tallystickref14_SamePart.mono _ _ _ _ _ _ _ _ _ _ _ _ _
      | exact tallystickref14_Sum.mono _ _
      | exact LeO.none _
      | refine LeO.ite ?_ ?_
      | refine LeO.bind ?_ (fun _ => ?_)
def tallysticklaw14_CrcRecords.T13 : Bool × List (List Nat × List Nat) := (true, [([], []), ([0], [0]), ([1], [1]), ([1], [1]), ([2, 3, 1], [1, 2, 3]), ([1, 4], [1, 4]), ([5, 1], [5]), ([6], [6]), ([6], [6]), ([7, 8, 6], [6, 7, 8]), ([6, 9], [6, 9]), ([10, 6], [10]), ([11], [11]), ([11, 12], [11, 12]), ([13, 11], [13]), ([14], [14]), ([14], [14]), ([15, 16, 14], [14, 15, 16]), ([14, 17], [14, 17]), ([18, 14], [18]), ([19], [19]), ([19], [19]), ([20, 21, 19], [19, 20, 21]), ([19, 22], [19, 22]), ([23, 19], [23]), ([24], [24]), ([25, 24, 24], [24, 25]), ([24], [24]), ([27, 26, 24], [24, 27]), ([26, 28, 24], [24, 26, 28]), ([24, 29], [24, 29]), ([30, 28], [30]), ([31], [31]), ([31], [31]), ([32, 33, 31, 31], [31, 32, 33]), ([31], [31]), ([31], [31]), ([35, 36, 34, 31], [31, 35, 36]), ([34, 37, 31], [31, 34, 37]), ([31, 38], [31, 38]), ([39, 37, 0, 1, 2, 3, 4, 5, 6, 7, 8, 9, 10, 11, 12, 13, 14, 15, 16, 17, 18, 19, 20, 21, 22, 23, 24, 25, 26, 27, 28, 29, 30, 31, 32, 33, 34, 35, 36, 37, 38, 39], [39])])
def tallysticklaw14_CrcRecords.B13 : List Nat := [0, 1, 3, 3, 15, 31, 63, 127, 127, 511, 1023, 2047, 4095, 8191, 16383, 32767, 32767, 131071, 262143, 524287, 1048575, 1048575, 4194303, 8388607, 16777215, 33554431, 67108863, 33554431, 268435455, 536870911, 1073741823, 2147483647, 4294967295, 4294967295, 17179869183, 4294967295, 4294967295, 137438953471, 274877906943, 549755813887, 1099511627775]
theorem tallysticklaw14_CrcRecords.tab13 : rtab .any (opsOf Tryd.f6 13) = tallysticklaw14_CrcRecords.T13 := by kernel_rfl
theorem tallysticklaw14_CrcRecords.bits13 : waitsOk tallysticklaw14_CrcRecords.T13.2 tallysticklaw14_CrcRecords.B13 = true := by kernel_rfl
set_option maxHeartbeats 8000000 in
set_option maxRecDepth 100000 in
theorem tallysticklaw14_CrcRecords.calls (k : Nat) (a0_0 : Int) (a0_1 : Int) (a0_2 : Int) (a0_3 : Int) (a0_4 : Int) (A0_5 : Option Addr) (c0_5 : Nat) (l0_5 : List Int) (A0_6 : Option Addr) (c0_6 : Nat) (l0_6 : List Int) (A0_7 : Option Addr) (c0_7 : Nat) (l0_7 : List Int) (a0_8 : Bool) (a0_9 : ByteArray) (a0_10 : Int) (a0_11 : Int) (a0_12 : Int) (a0_13 : Int) (a0_14 : Int) (a0_15 : Int) (a0_16 : Int) (a0_17 : Int) (A0_18 : Option Addr) (c0_18 : Nat) (l0_18 : List Int) (A0_19 : Option Addr) (c0_19 : Nat) (l0_19 : List Int) (A0_20 : Option Addr) (c0_20 : Nat) (l0_20 : List Int) (a0_21 : Bool) (r : Bool) (w : World) (HPR : Aside0 (ErrCell w)) (hr0_5 : Kd.C (Kd.int .u64) w A0_5 l0_5.length l0_5) (hc0_5 : l0_5.length ≤ c0_5) (hr0_6 : Kd.C (Kd.int .u64) w A0_6 l0_6.length l0_6) (hc0_6 : l0_6.length ≤ c0_6) (hr0_7 : Kd.C (Kd.int .u64) w A0_7 l0_7.length l0_7) (hc0_7 : l0_7.length ≤ c0_7) (hr0_18 : Kd.C (Kd.int .u64) w A0_18 l0_18.length l0_18) (hc0_18 : l0_18.length ≤ c0_18) (hr0_19 : Kd.C (Kd.int .u64) w A0_19 l0_19.length l0_19) (hc0_19 : l0_19.length ≤ c0_19) (hr0_20 : Kd.C (Kd.int .u64) w A0_20 l0_20.length l0_20) (hc0_20 : l0_20.length ≤ c0_20) (hr_ : Aside0 (r = true)) (h : tallysticklaw14_CrcRecords.f k a0_0 a0_1 a0_2 a0_3 a0_4 l0_5 l0_6 l0_7 a0_8 a0_9 a0_10 a0_11 a0_12 a0_13 a0_14 a0_15 a0_16 a0_17 l0_18 l0_19 l0_20 a0_21 = some r) :
    Calls Tryd.prog 6 #[.agg #[.int .i64 a0_0, .int .i64 a0_1, .int .i64 a0_2, .int .i64 a0_3, .int .i64 a0_4, .slice A0_5 l0_5.length c0_5, .slice A0_6 l0_6.length c0_6, .slice A0_7 l0_7.length c0_7, .bool a0_8, .string a0_9, .int .i64 a0_10, .int .i64 a0_11, .int .i64 a0_12, .int .i64 a0_13, .int .i64 a0_14, .int .i64 a0_15, .int .i64 a0_16, .int .i64 a0_17, .slice A0_18 l0_18.length c0_18, .slice A0_19 l0_19.length c0_19, .slice A0_20 l0_20.length c0_20, .bool a0_21]] w fun e w' => e = .returned (.bool r) ∧ Below w.heap.size w w' := by
  have hu46 := Tryd.underlying46
  have hu34 := Tryd.underlying34
  have hu23 := Tryd.underlying23
  have hu29 := Tryd.underlying29
  have HR0_5 := zm hr0_5
  have HC0_5 := zm hc0_5
  clear hr0_5 hc0_5
  have HR0_6 := zm hr0_6
  have HC0_6 := zm hc0_6
  clear hr0_6 hc0_6
  have HR0_7 := zm hr0_7
  have HC0_7 := zm hc0_7
  clear hr0_7 hc0_7
  have HR0_18 := zm hr0_18
  have HC0_18 := zm hc0_18
  clear hr0_18 hc0_18
  have HR0_19 := zm hr0_19
  have HC0_19 := zm hc0_19
  clear hr0_19 hc0_19
  have HR0_20 := zm hr0_20
  have HC0_20 := zm hc0_20
  clear hr0_20 hc0_20
  have HB := zm (Below.refl w.heap.size w)
  have H : ((tallysticklaw14_shown.f).bind fun t202 => ((crc_Bytes.f k a0_0 a0_1 a0_2 a0_3 a0_4 l0_5 l0_6 l0_7 a0_8).bind fun bt203 => ((tallystickref14_Bytes.f k a0_0 a0_1 a0_2 a0_3 a0_4 l0_5 l0_6 l0_7 a0_8).bind fun bt205 => ((crc_Take.f a0_9).bind fun bt207 => ((tallystickref14_Take.f a0_9).bind fun bt224 => ((crc_Of.f a0_9 a0_10 a0_11 a0_12).bind fun bt241 => ((tallystickref14_Of.f a0_9 a0_10 a0_11 a0_12).bind fun bt255 => ((tallystickref14_Same.f k bt207.1 bt207.2.1 bt207.2.2.1 bt207.2.2.2.1 bt207.2.2.2.2.1 bt207.2.2.2.2.2.1 bt207.2.2.2.2.2.2.1 bt207.2.2.2.2.2.2.2.1 bt207.2.2.2.2.2.2.2.2.1 bt224.1 bt224.2.1 bt224.2.2.1 bt224.2.2.2.1 bt224.2.2.2.2.1 bt224.2.2.2.2.2.1 bt224.2.2.2.2.2.2.1 bt224.2.2.2.2.2.2.2.1 bt224.2.2.2.2.2.2.2.2.1).bind fun t269 => (if t269 = true then ((tallystickref14_SamePart.f k bt241.1 bt241.2.1 bt241.2.2.1 bt241.2.2.2.1 bt241.2.2.2.2.1 bt241.2.2.2.2.2.1 bt255.1 bt255.2.1 bt255.2.2.1 bt255.2.2.2.1 bt255.2.2.2.2.1 bt255.2.2.2.2.2.1).bind fun t270 => (tallysticklaw14_CrcRecords.j0 k a0_9 t202 bt203.1 bt203.2 bt205.1 bt205.2 bt207.2.2.2.2.2.2.2.2.2 bt224.2.2.2.2.2.2.2.2.2 bt241.2.2.2.2.2.2 bt255.2.2.2.2.2.2 t270 a0_0 a0_1 a0_2 a0_3 a0_4 l0_5 l0_6 l0_7 a0_8 a0_13 a0_14 a0_15 a0_16 a0_17 l0_18 l0_19 l0_20 a0_21)) else (tallysticklaw14_CrcRecords.j0 k a0_9 t202 bt203.1 bt203.2 bt205.1 bt205.2 bt207.2.2.2.2.2.2.2.2.2 bt224.2.2.2.2.2.2.2.2.2 bt241.2.2.2.2.2.2 bt255.2.2.2.2.2.2 false a0_0 a0_1 a0_2 a0_3 a0_4 l0_5 l0_6 l0_7 a0_8 a0_13 a0_14 a0_15 a0_16 a0_17 l0_18 l0_19 l0_20 a0_21)))))))))) = some r := h
  clear h
  replace H := Option.bind_eq_some_iff.mp H
  obtain ⟨t202, A20, H⟩ := H
  replace H : ((crc_Bytes.f k a0_0 a0_1 a0_2 a0_3 a0_4 l0_5 l0_6 l0_7 a0_8).bind fun bt203 => ((tallystickref14_Bytes.f k a0_0 a0_1 a0_2 a0_3 a0_4 l0_5 l0_6 l0_7 a0_8).bind fun bt205 => ((crc_Take.f a0_9).bind fun bt207 => ((tallystickref14_Take.f a0_9).bind fun bt224 => ((crc_Of.f a0_9 a0_10 a0_11 a0_12).bind fun bt241 => ((tallystickref14_Of.f a0_9 a0_10 a0_11 a0_12).bind fun bt255 => ((tallystickref14_Same.f k bt207.1 bt207.2.1 bt207.2.2.1 bt207.2.2.2.1 bt207.2.2.2.2.1 bt207.2.2.2.2.2.1 bt207.2.2.2.2.2.2.1 bt207.2.2.2.2.2.2.2.1 bt207.2.2.2.2.2.2.2.2.1 bt224.1 bt224.2.1 bt224.2.2.1 bt224.2.2.2.1 bt224.2.2.2.2.1 bt224.2.2.2.2.2.1 bt224.2.2.2.2.2.2.1 bt224.2.2.2.2.2.2.2.1 bt224.2.2.2.2.2.2.2.2.1).bind fun t269 => (if t269 = true then ((tallystickref14_SamePart.f k bt241.1 bt241.2.1 bt241.2.2.1 bt241.2.2.2.1 bt241.2.2.2.2.1 bt241.2.2.2.2.2.1 bt255.1 bt255.2.1 bt255.2.2.1 bt255.2.2.2.1 bt255.2.2.2.2.1 bt255.2.2.2.2.2.1).bind fun t270 => (tallysticklaw14_CrcRecords.j0 k a0_9 t202 bt203.1 bt203.2 bt205.1 bt205.2 bt207.2.2.2.2.2.2.2.2.2 bt224.2.2.2.2.2.2.2.2.2 bt241.2.2.2.2.2.2 bt255.2.2.2.2.2.2 t270 a0_0 a0_1 a0_2 a0_3 a0_4 l0_5 l0_6 l0_7 a0_8 a0_13 a0_14 a0_15 a0_16 a0_17 l0_18 l0_19 l0_20 a0_21)) else (tallysticklaw14_CrcRecords.j0 k a0_9 t202 bt203.1 bt203.2 bt205.1 bt205.2 bt207.2.2.2.2.2.2.2.2.2 bt224.2.2.2.2.2.2.2.2.2 bt241.2.2.2.2.2.2 bt255.2.2.2.2.2.2 false a0_0 a0_1 a0_2 a0_3 a0_4 l0_5 l0_6 l0_7 a0_8 a0_13 a0_14 a0_15 a0_16 a0_17 l0_18 l0_19 l0_20 a0_21))))))))) = some r := H
  have A2 := zm A20
  clear A20
  replace H := Option.bind_eq_some_iff.mp H
  obtain ⟨⟨t203, t204⟩, A30, H⟩ := H
  replace H : ((tallystickref14_Bytes.f k a0_0 a0_1 a0_2 a0_3 a0_4 l0_5 l0_6 l0_7 a0_8).bind fun bt205 => ((crc_Take.f a0_9).bind fun bt207 => ((tallystickref14_Take.f a0_9).bind fun bt224 => ((crc_Of.f a0_9 a0_10 a0_11 a0_12).bind fun bt241 => ((tallystickref14_Of.f a0_9 a0_10 a0_11 a0_12).bind fun bt255 => ((tallystickref14_Same.f k bt207.1 bt207.2.1 bt207.2.2.1 bt207.2.2.2.1 bt207.2.2.2.2.1 bt207.2.2.2.2.2.1 bt207.2.2.2.2.2.2.1 bt207.2.2.2.2.2.2.2.1 bt207.2.2.2.2.2.2.2.2.1 bt224.1 bt224.2.1 bt224.2.2.1 bt224.2.2.2.1 bt224.2.2.2.2.1 bt224.2.2.2.2.2.1 bt224.2.2.2.2.2.2.1 bt224.2.2.2.2.2.2.2.1 bt224.2.2.2.2.2.2.2.2.1).bind fun t269 => (if t269 = true then ((tallystickref14_SamePart.f k bt241.1 bt241.2.1 bt241.2.2.1 bt241.2.2.2.1 bt241.2.2.2.2.1 bt241.2.2.2.2.2.1 bt255.1 bt255.2.1 bt255.2.2.1 bt255.2.2.2.1 bt255.2.2.2.2.1 bt255.2.2.2.2.2.1).bind fun t270 => (tallysticklaw14_CrcRecords.j0 k a0_9 t202 t203 t204 bt205.1 bt205.2 bt207.2.2.2.2.2.2.2.2.2 bt224.2.2.2.2.2.2.2.2.2 bt241.2.2.2.2.2.2 bt255.2.2.2.2.2.2 t270 a0_0 a0_1 a0_2 a0_3 a0_4 l0_5 l0_6 l0_7 a0_8 a0_13 a0_14 a0_15 a0_16 a0_17 l0_18 l0_19 l0_20 a0_21)) else (tallysticklaw14_CrcRecords.j0 k a0_9 t202 t203 t204 bt205.1 bt205.2 bt207.2.2.2.2.2.2.2.2.2 bt224.2.2.2.2.2.2.2.2.2 bt241.2.2.2.2.2.2 bt255.2.2.2.2.2.2 false a0_0 a0_1 a0_2 a0_3 a0_4 l0_5 l0_6 l0_7 a0_8 a0_13 a0_14 a0_15 a0_16 a0_17 l0_18 l0_19 l0_20 a0_21)))))))) = some r := H
  have A3 := zm A30
  clear A30
  replace H := Option.bind_eq_some_iff.mp H
  obtain ⟨⟨t205, t206⟩, A40, H⟩ := H
  replace H : ((crc_Take.f a0_9).bind fun bt207 => ((tallystickref14_Take.f a0_9).bind fun bt224 => ((crc_Of.f a0_9 a0_10 a0_11 a0_12).bind fun bt241 => ((tallystickref14_Of.f a0_9 a0_10 a0_11 a0_12).bind fun bt255 => ((tallystickref14_Same.f k bt207.1 bt207.2.1 bt207.2.2.1 bt207.2.2.2.1 bt207.2.2.2.2.1 bt207.2.2.2.2.2.1 bt207.2.2.2.2.2.2.1 bt207.2.2.2.2.2.2.2.1 bt207.2.2.2.2.2.2.2.2.1 bt224.1 bt224.2.1 bt224.2.2.1 bt224.2.2.2.1 bt224.2.2.2.2.1 bt224.2.2.2.2.2.1 bt224.2.2.2.2.2.2.1 bt224.2.2.2.2.2.2.2.1 bt224.2.2.2.2.2.2.2.2.1).bind fun t269 => (if t269 = true then ((tallystickref14_SamePart.f k bt241.1 bt241.2.1 bt241.2.2.1 bt241.2.2.2.1 bt241.2.2.2.2.1 bt241.2.2.2.2.2.1 bt255.1 bt255.2.1 bt255.2.2.1 bt255.2.2.2.1 bt255.2.2.2.2.1 bt255.2.2.2.2.2.1).bind fun t270 => (tallysticklaw14_CrcRecords.j0 k a0_9 t202 t203 t204 t205 t206 bt207.2.2.2.2.2.2.2.2.2 bt224.2.2.2.2.2.2.2.2.2 bt241.2.2.2.2.2.2 bt255.2.2.2.2.2.2 t270 a0_0 a0_1 a0_2 a0_3 a0_4 l0_5 l0_6 l0_7 a0_8 a0_13 a0_14 a0_15 a0_16 a0_17 l0_18 l0_19 l0_20 a0_21)) else (tallysticklaw14_CrcRecords.j0 k a0_9 t202 t203 t204 t205 t206 bt207.2.2.2.2.2.2.2.2.2 bt224.2.2.2.2.2.2.2.2.2 bt241.2.2.2.2.2.2 bt255.2.2.2.2.2.2 false a0_0 a0_1 a0_2 a0_3 a0_4 l0_5 l0_6 l0_7 a0_8 a0_13 a0_14 a0_15 a0_16 a0_17 l0_18 l0_19 l0_20 a0_21))))))) = some r := H
  have A4 := zm A40
  clear A40
  replace H := Option.bind_eq_some_iff.mp H
  obtain ⟨⟨t207, t208, t209, t210, t211, t212, t215, t218, t221, t222⟩, A50, H⟩ := H
  replace H : ((tallystickref14_Take.f a0_9).bind fun bt224 => ((crc_Of.f a0_9 a0_10 a0_11 a0_12).bind fun bt241 => ((tallystickref14_Of.f a0_9 a0_10 a0_11 a0_12).bind fun bt255 => ((tallystickref14_Same.f k t207 t208 t209 t210 t211 t212 t215 t218 t221 bt224.1 bt224.2.1 bt224.2.2.1 bt224.2.2.2.1 bt224.2.2.2.2.1 bt224.2.2.2.2.2.1 bt224.2.2.2.2.2.2.1 bt224.2.2.2.2.2.2.2.1 bt224.2.2.2.2.2.2.2.2.1).bind fun t269 => (if t269 = true then ((tallystickref14_SamePart.f k bt241.1 bt241.2.1 bt241.2.2.1 bt241.2.2.2.1 bt241.2.2.2.2.1 bt241.2.2.2.2.2.1 bt255.1 bt255.2.1 bt255.2.2.1 bt255.2.2.2.1 bt255.2.2.2.2.1 bt255.2.2.2.2.2.1).bind fun t270 => (tallysticklaw14_CrcRecords.j0 k a0_9 t202 t203 t204 t205 t206 t222 bt224.2.2.2.2.2.2.2.2.2 bt241.2.2.2.2.2.2 bt255.2.2.2.2.2.2 t270 a0_0 a0_1 a0_2 a0_3 a0_4 l0_5 l0_6 l0_7 a0_8 a0_13 a0_14 a0_15 a0_16 a0_17 l0_18 l0_19 l0_20 a0_21)) else (tallysticklaw14_CrcRecords.j0 k a0_9 t202 t203 t204 t205 t206 t222 bt224.2.2.2.2.2.2.2.2.2 bt241.2.2.2.2.2.2 bt255.2.2.2.2.2.2 false a0_0 a0_1 a0_2 a0_3 a0_4 l0_5 l0_6 l0_7 a0_8 a0_13 a0_14 a0_15 a0_16 a0_17 l0_18 l0_19 l0_20 a0_21)))))) = some r := H
  have A5 := zm A50
  clear A50
  replace H := Option.bind_eq_some_iff.mp H
  obtain ⟨⟨t224, t225, t226, t227, t228, t229, t232, t235, t238, t239⟩, A60, H⟩ := H
  replace H : ((crc_Of.f a0_9 a0_10 a0_11 a0_12).bind fun bt241 => ((tallystickref14_Of.f a0_9 a0_10 a0_11 a0_12).bind fun bt255 => ((tallystickref14_Same.f k t207 t208 t209 t210 t211 t212 t215 t218 t221 t224 t225 t226 t227 t228 t229 t232 t235 t238).bind fun t269 => (if t269 = true then ((tallystickref14_SamePart.f k bt241.1 bt241.2.1 bt241.2.2.1 bt241.2.2.2.1 bt241.2.2.2.2.1 bt241.2.2.2.2.2.1 bt255.1 bt255.2.1 bt255.2.2.1 bt255.2.2.2.1 bt255.2.2.2.2.1 bt255.2.2.2.2.2.1).bind fun t270 => (tallysticklaw14_CrcRecords.j0 k a0_9 t202 t203 t204 t205 t206 t222 t239 bt241.2.2.2.2.2.2 bt255.2.2.2.2.2.2 t270 a0_0 a0_1 a0_2 a0_3 a0_4 l0_5 l0_6 l0_7 a0_8 a0_13 a0_14 a0_15 a0_16 a0_17 l0_18 l0_19 l0_20 a0_21)) else (tallysticklaw14_CrcRecords.j0 k a0_9 t202 t203 t204 t205 t206 t222 t239 bt241.2.2.2.2.2.2 bt255.2.2.2.2.2.2 false a0_0 a0_1 a0_2 a0_3 a0_4 l0_5 l0_6 l0_7 a0_8 a0_13 a0_14 a0_15 a0_16 a0_17 l0_18 l0_19 l0_20 a0_21))))) = some r := H
  have A6 := zm A60
  clear A60
  replace H := Option.bind_eq_some_iff.mp H
  obtain ⟨⟨t241, t242, t243, t246, t249, t252, t253⟩, A70, H⟩ := H
  replace H : ((tallystickref14_Of.f a0_9 a0_10 a0_11 a0_12).bind fun bt255 => ((tallystickref14_Same.f k t207 t208 t209 t210 t211 t212 t215 t218 t221 t224 t225 t226 t227 t228 t229 t232 t235 t238).bind fun t269 => (if t269 = true then ((tallystickref14_SamePart.f k t241 t242 t243 t246 t249 t252 bt255.1 bt255.2.1 bt255.2.2.1 bt255.2.2.2.1 bt255.2.2.2.2.1 bt255.2.2.2.2.2.1).bind fun t270 => (tallysticklaw14_CrcRecords.j0 k a0_9 t202 t203 t204 t205 t206 t222 t239 t253 bt255.2.2.2.2.2.2 t270 a0_0 a0_1 a0_2 a0_3 a0_4 l0_5 l0_6 l0_7 a0_8 a0_13 a0_14 a0_15 a0_16 a0_17 l0_18 l0_19 l0_20 a0_21)) else (tallysticklaw14_CrcRecords.j0 k a0_9 t202 t203 t204 t205 t206 t222 t239 t253 bt255.2.2.2.2.2.2 false a0_0 a0_1 a0_2 a0_3 a0_4 l0_5 l0_6 l0_7 a0_8 a0_13 a0_14 a0_15 a0_16 a0_17 l0_18 l0_19 l0_20 a0_21)))) = some r := H
  have A7 := zm A70
  clear A70
  replace H := Option.bind_eq_some_iff.mp H
  obtain ⟨⟨t255, t256, t257, t260, t263, t266, t267⟩, A80, H⟩ := H
  replace H : ((tallystickref14_Same.f k t207 t208 t209 t210 t211 t212 t215 t218 t221 t224 t225 t226 t227 t228 t229 t232 t235 t238).bind fun t269 => (if t269 = true then ((tallystickref14_SamePart.f k t241 t242 t243 t246 t249 t252 t255 t256 t257 t260 t263 t266).bind fun t270 => (tallysticklaw14_CrcRecords.j0 k a0_9 t202 t203 t204 t205 t206 t222 t239 t253 t267 t270 a0_0 a0_1 a0_2 a0_3 a0_4 l0_5 l0_6 l0_7 a0_8 a0_13 a0_14 a0_15 a0_16 a0_17 l0_18 l0_19 l0_20 a0_21)) else (tallysticklaw14_CrcRecords.j0 k a0_9 t202 t203 t204 t205 t206 t222 t239 t253 t267 false a0_0 a0_1 a0_2 a0_3 a0_4 l0_5 l0_6 l0_7 a0_8 a0_13 a0_14 a0_15 a0_16 a0_17 l0_18 l0_19 l0_20 a0_21))) = some r := H
  have A8 := zm A80
  clear A80
  have HC9 := zm H
  clear H
  go_enter Tryd.func6, Tryd.ntmps6
  go_upto_region 12 with (first | ((with_reducible refine gate_dst (N := 1) rfl ?_); refine box_event ?hg (N := 1) ?hd (cs := #[.int .i64 a0_0, .int .i64 a0_1, .int .i64 a0_2, .int .i64 a0_3, .int .i64 a0_4, .slice A0_5 l0_5.length c0_5, .slice A0_6 l0_6.length c0_6, .slice A0_7 l0_7.length c0_7, .bool a0_8, .string a0_9, .int .i64 a0_10, .int .i64 a0_11, .int .i64 a0_12, .int .i64 a0_13, .int .i64 a0_14, .int .i64 a0_15, .int .i64 a0_16, .int .i64 a0_17, .slice A0_18 l0_18.length c0_18, .slice A0_19 l0_19.length c0_19, .slice A0_20 l0_20.length c0_20, .bool a0_21]) (t := 46) ?hr ?_; (case hd => rfl); (case hg => rfl); (case hr => first | (go_simp; done) | (go_simp; rfl)); intro gb198 hg w10 hbox hb; have n0_ := zm (below_step (by repeat (first | (with_reducible first | exact HB.out | apply zb1 | apply zb2 | apply zb3) | exact HB.out)) hb); have n1_ := zm (hbox); have n2_ := zm ((by rw [hg]; exact (below_size (by repeat (first | (with_reducible first | exact HB.out | apply zb1 | apply zb2 | apply zb3) | exact HB.out))) : w.heap.size ≤ gb198)); have n3_ := zm ((by rw [hg]; exact (below_size (by repeat (first | (with_reducible first | exact HB.out | apply zb1 | apply zb2 | apply zb3) | exact HB.out))) : w.heap.size ≤ gb198)); clear HB; have HB := n0_; have BK198 := n1_; have GW198 := n2_; have GE198 := n3_; clear n0_ n1_ n2_ n3_; clear hb hbox hg; have hcz11_0 : w10.cell? ⟨gb198, 0, none⟩ = some (.int .i64 a0_0) := (blk_cell BK198.out 0).trans rfl; have hcz11_1 : w10.cell? ⟨gb198, 1, none⟩ = some (.int .i64 a0_1) := (blk_cell BK198.out 1).trans rfl; have hcz11_2 : w10.cell? ⟨gb198, 2, none⟩ = some (.int .i64 a0_2) := (blk_cell BK198.out 2).trans rfl; have hcz11_3 : w10.cell? ⟨gb198, 3, none⟩ = some (.int .i64 a0_3) := (blk_cell BK198.out 3).trans rfl; have hcz11_4 : w10.cell? ⟨gb198, 4, none⟩ = some (.int .i64 a0_4) := (blk_cell BK198.out 4).trans rfl; have hcz11_5 : w10.cell? ⟨gb198, 5, none⟩ = some (.slice A0_5 l0_5.length c0_5) := (blk_cell BK198.out 5).trans rfl; have hcz11_6 : w10.cell? ⟨gb198, 6, none⟩ = some (.slice A0_6 l0_6.length c0_6) := (blk_cell BK198.out 6).trans rfl; have hcz11_7 : w10.cell? ⟨gb198, 7, none⟩ = some (.slice A0_7 l0_7.length c0_7) := (blk_cell BK198.out 7).trans rfl; have hcz11_8 : w10.cell? ⟨gb198, 8, none⟩ = some (.bool a0_8) := (blk_cell BK198.out 8).trans rfl; have hcz11_9 : w10.cell? ⟨gb198, 9, none⟩ = some (.string a0_9) := (blk_cell BK198.out 9).trans rfl; have hcz11_10 : w10.cell? ⟨gb198, 10, none⟩ = some (.int .i64 a0_10) := (blk_cell BK198.out 10).trans rfl; have hcz11_11 : w10.cell? ⟨gb198, 11, none⟩ = some (.int .i64 a0_11) := (blk_cell BK198.out 11).trans rfl; have hcz11_12 : w10.cell? ⟨gb198, 12, none⟩ = some (.int .i64 a0_12) := (blk_cell BK198.out 12).trans rfl; have hcz11_13 : w10.cell? ⟨gb198, 13, none⟩ = some (.int .i64 a0_13) := (blk_cell BK198.out 13).trans rfl; have hcz11_14 : w10.cell? ⟨gb198, 14, none⟩ = some (.int .i64 a0_14) := (blk_cell BK198.out 14).trans rfl; have hcz11_15 : w10.cell? ⟨gb198, 15, none⟩ = some (.int .i64 a0_15) := (blk_cell BK198.out 15).trans rfl; have hcz11_16 : w10.cell? ⟨gb198, 16, none⟩ = some (.int .i64 a0_16) := (blk_cell BK198.out 16).trans rfl; have hcz11_17 : w10.cell? ⟨gb198, 17, none⟩ = some (.int .i64 a0_17) := (blk_cell BK198.out 17).trans rfl; have hcz11_18 : w10.cell? ⟨gb198, 18, none⟩ = some (.slice A0_18 l0_18.length c0_18) := (blk_cell BK198.out 18).trans rfl; have hcz11_19 : w10.cell? ⟨gb198, 19, none⟩ = some (.slice A0_19 l0_19.length c0_19) := (blk_cell BK198.out 19).trans rfl; have hcz11_20 : w10.cell? ⟨gb198, 20, none⟩ = some (.slice A0_20 l0_20.length c0_20) := (blk_cell BK198.out 20).trans rfl; have hcz11_21 : w10.cell? ⟨gb198, 21, none⟩ = some (.bool a0_21) := (blk_cell BK198.out 21).trans rfl; have hfz11_0 := blk_frozen BK198.out 0; have hfz11_1 := blk_frozen BK198.out 1; have hfz11_2 := blk_frozen BK198.out 2; have hfz11_3 := blk_frozen BK198.out 3; have hfz11_4 := blk_frozen BK198.out 4; have hfz11_5 := blk_frozen BK198.out 5; have hfz11_6 := blk_frozen BK198.out 6; have hfz11_7 := blk_frozen BK198.out 7; have hfz11_8 := blk_frozen BK198.out 8; have hfz11_9 := blk_frozen BK198.out 9; have hfz11_10 := blk_frozen BK198.out 10; have hfz11_11 := blk_frozen BK198.out 11; have hfz11_12 := blk_frozen BK198.out 12; have hfz11_13 := blk_frozen BK198.out 13; have hfz11_14 := blk_frozen BK198.out 14; have hfz11_15 := blk_frozen BK198.out 15; have hfz11_16 := blk_frozen BK198.out 16; have hfz11_17 := blk_frozen BK198.out 17; have hfz11_18 := blk_frozen BK198.out 18; have hfz11_19 := blk_frozen BK198.out 19; have hfz11_20 := blk_frozen BK198.out 20; have hfz11_21 := blk_frozen BK198.out 21) | ((with_reducible refine gate_dst (N := 3) rfl ?_); refine box_event ?hg (N := 3) ?hd (cs := #[.int .i64 0, .int .i64 0, .int .i64 0, .int .i64 0, .int .i64 0, .slice none 0 0, .slice none 0 0, .slice none 0 0, .bool false]) (t := 34) ?hr ?_; (case hd => rfl); (case hg => rfl); (case hr => first | (go_simp; done) | (go_simp; rfl)); intro gb199 hg w12 hbox hb; have n0_ := zm (blk_below (g := gb198) (o := .cells #[.int .i64 a0_0, .int .i64 a0_1, .int .i64 a0_2, .int .i64 a0_3, .int .i64 a0_4, .slice A0_5 l0_5.length c0_5, .slice A0_6 l0_6.length c0_6, .slice A0_7 l0_7.length c0_7, .bool a0_8, .string a0_9, .int .i64 a0_10, .int .i64 a0_11, .int .i64 a0_12, .int .i64 a0_13, .int .i64 a0_14, .int .i64 a0_15, .int .i64 a0_16, .int .i64 a0_17, .slice A0_18 l0_18.length c0_18, .slice A0_19 l0_19.length c0_19, .slice A0_20 l0_20.length c0_20, .bool a0_21] 46 (0, 0)) (by (with_reducible repeat first | refine zk1 ?_ _ | refine zk2 ?_ | refine zk3 ?_ _); exact BK198.out) hb); have n1_ := zm (below_step (by repeat (first | (with_reducible first | exact HB.out | apply zb1 | apply zb2 | apply zb3 | refine zb4 ?_ GE198.out) | exact HB.out)) hb); have n2_ := zm (hbox); have n3_ := zm ((by rw [hg]; exact (below_size (by repeat (first | (with_reducible first | exact HB.out | apply zb1 | apply zb2 | apply zb3 | refine zb4 ?_ GE198.out) | exact HB.out))) : w.heap.size ≤ gb199)); have n4_ := zm ((by rw [hg]; exact (below_size (by repeat (first | (with_reducible first | exact HB.out | apply zb1 | apply zb2 | apply zb3 | refine zb4 ?_ GE198.out) | exact HB.out))) : w.heap.size ≤ gb199)); have n5_ := zm ((by rw [hg]; exact Nat.ne_of_lt (blk_lt (g := gb198) (by (with_reducible repeat first | refine zk1 ?_ _ | refine zk2 ?_ | refine zk3 ?_ _); exact BK198.out)) : gb198 ≠ gb199)); have n6_ := zm ((by rw [hg]; exact Nat.ne_of_gt (blk_lt (g := gb198) (by (with_reducible repeat first | refine zk1 ?_ _ | refine zk2 ?_ | refine zk3 ?_ _); exact BK198.out)) : gb199 ≠ gb198)); clear BK198 HB; have BK198 := n0_; have HB := n1_; have BK199 := n2_; have GW199 := n3_; have GE199 := n4_; have NB198_199 := n5_; have NB199_198 := n6_; clear n0_ n1_ n2_ n3_ n4_ n5_ n6_; clear hb hbox hg; have hnb13 := NB199_198.out; have hnc13 := NB198_199.out; have hcz14_0 : w12.cell? ⟨gb199, 0, none⟩ = some (.int .i64 0) := (blk_cell BK199.out 0).trans rfl; have hcz14_1 : w12.cell? ⟨gb199, 1, none⟩ = some (.int .i64 0) := (blk_cell BK199.out 1).trans rfl; have hcz14_2 : w12.cell? ⟨gb199, 2, none⟩ = some (.int .i64 0) := (blk_cell BK199.out 2).trans rfl; have hcz14_3 : w12.cell? ⟨gb199, 3, none⟩ = some (.int .i64 0) := (blk_cell BK199.out 3).trans rfl; have hcz14_4 : w12.cell? ⟨gb199, 4, none⟩ = some (.int .i64 0) := (blk_cell BK199.out 4).trans rfl; have hcz14_5 : w12.cell? ⟨gb199, 5, none⟩ = some (.slice none 0 0) := (blk_cell BK199.out 5).trans rfl; have hcz14_6 : w12.cell? ⟨gb199, 6, none⟩ = some (.slice none 0 0) := (blk_cell BK199.out 6).trans rfl; have hcz14_7 : w12.cell? ⟨gb199, 7, none⟩ = some (.slice none 0 0) := (blk_cell BK199.out 7).trans rfl; have hcz14_8 : w12.cell? ⟨gb199, 8, none⟩ = some (.bool false) := (blk_cell BK199.out 8).trans rfl; have hfz14_0 := blk_frozen BK199.out 0; have hfz14_1 := blk_frozen BK199.out 1; have hfz14_2 := blk_frozen BK199.out 2; have hfz14_3 := blk_frozen BK199.out 3; have hfz14_4 := blk_frozen BK199.out 4; have hfz14_5 := blk_frozen BK199.out 5; have hfz14_6 := blk_frozen BK199.out 6; have hfz14_7 := blk_frozen BK199.out 7; have hfz14_8 := blk_frozen BK199.out 8; have hcz15_0 : w12.cell? ⟨gb198, 0, none⟩ = some (.int .i64 a0_0) := (blk_cell BK198.out 0).trans rfl; have hcz15_1 : w12.cell? ⟨gb198, 1, none⟩ = some (.int .i64 a0_1) := (blk_cell BK198.out 1).trans rfl; have hcz15_2 : w12.cell? ⟨gb198, 2, none⟩ = some (.int .i64 a0_2) := (blk_cell BK198.out 2).trans rfl; have hcz15_3 : w12.cell? ⟨gb198, 3, none⟩ = some (.int .i64 a0_3) := (blk_cell BK198.out 3).trans rfl; have hcz15_4 : w12.cell? ⟨gb198, 4, none⟩ = some (.int .i64 a0_4) := (blk_cell BK198.out 4).trans rfl; have hcz15_5 : w12.cell? ⟨gb198, 5, none⟩ = some (.slice A0_5 l0_5.length c0_5) := (blk_cell BK198.out 5).trans rfl; have hcz15_6 : w12.cell? ⟨gb198, 6, none⟩ = some (.slice A0_6 l0_6.length c0_6) := (blk_cell BK198.out 6).trans rfl; have hcz15_7 : w12.cell? ⟨gb198, 7, none⟩ = some (.slice A0_7 l0_7.length c0_7) := (blk_cell BK198.out 7).trans rfl; have hcz15_8 : w12.cell? ⟨gb198, 8, none⟩ = some (.bool a0_8) := (blk_cell BK198.out 8).trans rfl; have hcz15_9 : w12.cell? ⟨gb198, 9, none⟩ = some (.string a0_9) := (blk_cell BK198.out 9).trans rfl; have hcz15_10 : w12.cell? ⟨gb198, 10, none⟩ = some (.int .i64 a0_10) := (blk_cell BK198.out 10).trans rfl; have hcz15_11 : w12.cell? ⟨gb198, 11, none⟩ = some (.int .i64 a0_11) := (blk_cell BK198.out 11).trans rfl; have hcz15_12 : w12.cell? ⟨gb198, 12, none⟩ = some (.int .i64 a0_12) := (blk_cell BK198.out 12).trans rfl; have hcz15_13 : w12.cell? ⟨gb198, 13, none⟩ = some (.int .i64 a0_13) := (blk_cell BK198.out 13).trans rfl; have hcz15_14 : w12.cell? ⟨gb198, 14, none⟩ = some (.int .i64 a0_14) := (blk_cell BK198.out 14).trans rfl; have hcz15_15 : w12.cell? ⟨gb198, 15, none⟩ = some (.int .i64 a0_15) := (blk_cell BK198.out 15).trans rfl; have hcz15_16 : w12.cell? ⟨gb198, 16, none⟩ = some (.int .i64 a0_16) := (blk_cell BK198.out 16).trans rfl; have hcz15_17 : w12.cell? ⟨gb198, 17, none⟩ = some (.int .i64 a0_17) := (blk_cell BK198.out 17).trans rfl; have hcz15_18 : w12.cell? ⟨gb198, 18, none⟩ = some (.slice A0_18 l0_18.length c0_18) := (blk_cell BK198.out 18).trans rfl; have hcz15_19 : w12.cell? ⟨gb198, 19, none⟩ = some (.slice A0_19 l0_19.length c0_19) := (blk_cell BK198.out 19).trans rfl; have hcz15_20 : w12.cell? ⟨gb198, 20, none⟩ = some (.slice A0_20 l0_20.length c0_20) := (blk_cell BK198.out 20).trans rfl; have hcz15_21 : w12.cell? ⟨gb198, 21, none⟩ = some (.bool a0_21) := (blk_cell BK198.out 21).trans rfl; have hfz15_0 := blk_frozen BK198.out 0; have hfz15_1 := blk_frozen BK198.out 1; have hfz15_2 := blk_frozen BK198.out 2; have hfz15_3 := blk_frozen BK198.out 3; have hfz15_4 := blk_frozen BK198.out 4; have hfz15_5 := blk_frozen BK198.out 5; have hfz15_6 := blk_frozen BK198.out 6; have hfz15_7 := blk_frozen BK198.out 7; have hfz15_8 := blk_frozen BK198.out 8; have hfz15_9 := blk_frozen BK198.out 9; have hfz15_10 := blk_frozen BK198.out 10; have hfz15_11 := blk_frozen BK198.out 11; have hfz15_12 := blk_frozen BK198.out 12; have hfz15_13 := blk_frozen BK198.out 13; have hfz15_14 := blk_frozen BK198.out 14; have hfz15_15 := blk_frozen BK198.out 15; have hfz15_16 := blk_frozen BK198.out 16; have hfz15_17 := blk_frozen BK198.out 17; have hfz15_18 := blk_frozen BK198.out 18; have hfz15_19 := blk_frozen BK198.out 19; have hfz15_20 := blk_frozen BK198.out 20; have hfz15_21 := blk_frozen BK198.out 21) | ((with_reducible refine gate_dst (N := 5) rfl ?_); refine box_event ?hg (N := 5) ?hd (cs := #[.int .i64 0, .int .i64 0, .int .i64 0]) (t := 23) ?hr ?_; (case hd => rfl); (case hg => rfl); (case hr => first | (go_simp; done) | (go_simp; rfl)); intro gb200 hg w16 hbox hb; have n0_ := zm (blk_below (g := gb198) (o := .cells #[.int .i64 a0_0, .int .i64 a0_1, .int .i64 a0_2, .int .i64 a0_3, .int .i64 a0_4, .slice A0_5 l0_5.length c0_5, .slice A0_6 l0_6.length c0_6, .slice A0_7 l0_7.length c0_7, .bool a0_8, .string a0_9, .int .i64 a0_10, .int .i64 a0_11, .int .i64 a0_12, .int .i64 a0_13, .int .i64 a0_14, .int .i64 a0_15, .int .i64 a0_16, .int .i64 a0_17, .slice A0_18 l0_18.length c0_18, .slice A0_19 l0_19.length c0_19, .slice A0_20 l0_20.length c0_20, .bool a0_21] 46 (0, 0)) (by (with_reducible repeat first | refine zk1 ?_ _ | refine zk2 ?_ | refine zk3 ?_ _); (iterate 9 refine blk_far ?_ NB198_199.out _); (with_reducible repeat first | refine zk1 ?_ _ | refine zk2 ?_ | refine zk3 ?_ _); exact BK198.out) hb); have n1_ := zm (blk_below (g := gb199) (o := .cells #[.int .i64 a0_0, .int .i64 a0_1, .int .i64 a0_2, .int .i64 a0_3, .int .i64 a0_4, .slice A0_5 l0_5.length c0_5, .slice A0_6 l0_6.length c0_6, .slice A0_7 l0_7.length c0_7, .bool a0_8] 34 (0, 0)) (by (with_reducible repeat first | refine zk1 ?_ _ | refine zk2 ?_ | refine zk3 ?_ _); exact put9 (by (with_reducible repeat first | refine zk1 ?_ _ | refine zk2 ?_ | refine zk3 ?_ _); exact BK199.out) _ _ _ _ _ _ _ _ _) hb); have n2_ := zm (below_step (by repeat (first | (with_reducible first | exact HB.out | apply zb1 | apply zb2 | apply zb3 | refine zb4 ?_ GE198.out | refine zb4 ?_ GE199.out) | exact HB.out)) hb); have n3_ := zm (hbox); have n4_ := zm ((by rw [hg]; exact (below_size (by repeat (first | (with_reducible first | exact HB.out | apply zb1 | apply zb2 | apply zb3 | refine zb4 ?_ GE198.out | refine zb4 ?_ GE199.out) | exact HB.out))) : w.heap.size ≤ gb200)); have n5_ := zm ((by rw [hg]; exact (below_size (by repeat (first | (with_reducible first | exact HB.out | apply zb1 | apply zb2 | apply zb3 | refine zb4 ?_ GE198.out | refine zb4 ?_ GE199.out) | exact HB.out))) : w.heap.size ≤ gb200)); have n6_ := zm ((by rw [hg]; exact Nat.ne_of_lt (blk_lt (g := gb198) (o := .cells #[.int .i64 a0_0, .int .i64 a0_1, .int .i64 a0_2, .int .i64 a0_3, .int .i64 a0_4, .slice A0_5 l0_5.length c0_5, .slice A0_6 l0_6.length c0_6, .slice A0_7 l0_7.length c0_7, .bool a0_8, .string a0_9, .int .i64 a0_10, .int .i64 a0_11, .int .i64 a0_12, .int .i64 a0_13, .int .i64 a0_14, .int .i64 a0_15, .int .i64 a0_16, .int .i64 a0_17, .slice A0_18 l0_18.length c0_18, .slice A0_19 l0_19.length c0_19, .slice A0_20 l0_20.length c0_20, .bool a0_21] 46 (0, 0)) (by (with_reducible repeat first | refine zk1 ?_ _ | refine zk2 ?_ | refine zk3 ?_ _); (iterate 9 refine blk_far ?_ NB198_199.out _); (with_reducible repeat first | refine zk1 ?_ _ | refine zk2 ?_ | refine zk3 ?_ _); exact BK198.out)) : gb198 ≠ gb200)); have n7_ := zm ((by rw [hg]; exact Nat.ne_of_gt (blk_lt (g := gb198) (o := .cells #[.int .i64 a0_0, .int .i64 a0_1, .int .i64 a0_2, .int .i64 a0_3, .int .i64 a0_4, .slice A0_5 l0_5.length c0_5, .slice A0_6 l0_6.length c0_6, .slice A0_7 l0_7.length c0_7, .bool a0_8, .string a0_9, .int .i64 a0_10, .int .i64 a0_11, .int .i64 a0_12, .int .i64 a0_13, .int .i64 a0_14, .int .i64 a0_15, .int .i64 a0_16, .int .i64 a0_17, .slice A0_18 l0_18.length c0_18, .slice A0_19 l0_19.length c0_19, .slice A0_20 l0_20.length c0_20, .bool a0_21] 46 (0, 0)) (by (with_reducible repeat first | refine zk1 ?_ _ | refine zk2 ?_ | refine zk3 ?_ _); (iterate 9 refine blk_far ?_ NB198_199.out _); (with_reducible repeat first | refine zk1 ?_ _ | refine zk2 ?_ | refine zk3 ?_ _); exact BK198.out)) : gb200 ≠ gb198)); have n8_ := zm ((by rw [hg]; exact Nat.ne_of_lt (blk_lt (g := gb199) (o := .cells #[.int .i64 a0_0, .int .i64 a0_1, .int .i64 a0_2, .int .i64 a0_3, .int .i64 a0_4, .slice A0_5 l0_5.length c0_5, .slice A0_6 l0_6.length c0_6, .slice A0_7 l0_7.length c0_7, .bool a0_8] 34 (0, 0)) (by (with_reducible repeat first | refine zk1 ?_ _ | refine zk2 ?_ | refine zk3 ?_ _); exact put9 (by (with_reducible repeat first | refine zk1 ?_ _ | refine zk2 ?_ | refine zk3 ?_ _); exact BK199.out) _ _ _ _ _ _ _ _ _)) : gb199 ≠ gb200)); have n9_ := zm ((by rw [hg]; exact Nat.ne_of_gt (blk_lt (g := gb199) (o := .cells #[.int .i64 a0_0, .int .i64 a0_1, .int .i64 a0_2, .int .i64 a0_3, .int .i64 a0_4, .slice A0_5 l0_5.length c0_5, .slice A0_6 l0_6.length c0_6, .slice A0_7 l0_7.length c0_7, .bool a0_8] 34 (0, 0)) (by (with_reducible repeat first | refine zk1 ?_ _ | refine zk2 ?_ | refine zk3 ?_ _); exact put9 (by (with_reducible repeat first | refine zk1 ?_ _ | refine zk2 ?_ | refine zk3 ?_ _); exact BK199.out) _ _ _ _ _ _ _ _ _)) : gb200 ≠ gb199)); clear BK198 BK199 HB; have BK198 := n0_; have BK199 := n1_; have HB := n2_; have BK200 := n3_; have GW200 := n4_; have GE200 := n5_; have NB198_200 := n6_; have NB200_198 := n7_; have NB199_200 := n8_; have NB200_199 := n9_; clear n0_ n1_ n2_ n3_ n4_ n5_ n6_ n7_ n8_ n9_; clear hb hbox hg; have hnb17 := NB200_198.out; have hnc17 := NB198_200.out; have hnb18 := NB200_199.out; have hnc18 := NB199_200.out; have hcz19_0 : w16.cell? ⟨gb200, 0, none⟩ = some (.int .i64 0) := (blk_cell BK200.out 0).trans rfl; have hcz19_1 : w16.cell? ⟨gb200, 1, none⟩ = some (.int .i64 0) := (blk_cell BK200.out 1).trans rfl; have hcz19_2 : w16.cell? ⟨gb200, 2, none⟩ = some (.int .i64 0) := (blk_cell BK200.out 2).trans rfl; have hfz19_0 := blk_frozen BK200.out 0; have hfz19_1 := blk_frozen BK200.out 1; have hfz19_2 := blk_frozen BK200.out 2; have hcz20_0 : w16.cell? ⟨gb198, 0, none⟩ = some (.int .i64 a0_0) := (blk_cell BK198.out 0).trans rfl; have hcz20_1 : w16.cell? ⟨gb198, 1, none⟩ = some (.int .i64 a0_1) := (blk_cell BK198.out 1).trans rfl; have hcz20_2 : w16.cell? ⟨gb198, 2, none⟩ = some (.int .i64 a0_2) := (blk_cell BK198.out 2).trans rfl; have hcz20_3 : w16.cell? ⟨gb198, 3, none⟩ = some (.int .i64 a0_3) := (blk_cell BK198.out 3).trans rfl; have hcz20_4 : w16.cell? ⟨gb198, 4, none⟩ = some (.int .i64 a0_4) := (blk_cell BK198.out 4).trans rfl; have hcz20_5 : w16.cell? ⟨gb198, 5, none⟩ = some (.slice A0_5 l0_5.length c0_5) := (blk_cell BK198.out 5).trans rfl; have hcz20_6 : w16.cell? ⟨gb198, 6, none⟩ = some (.slice A0_6 l0_6.length c0_6) := (blk_cell BK198.out 6).trans rfl; have hcz20_7 : w16.cell? ⟨gb198, 7, none⟩ = some (.slice A0_7 l0_7.length c0_7) := (blk_cell BK198.out 7).trans rfl; have hcz20_8 : w16.cell? ⟨gb198, 8, none⟩ = some (.bool a0_8) := (blk_cell BK198.out 8).trans rfl; have hcz20_9 : w16.cell? ⟨gb198, 9, none⟩ = some (.string a0_9) := (blk_cell BK198.out 9).trans rfl; have hcz20_10 : w16.cell? ⟨gb198, 10, none⟩ = some (.int .i64 a0_10) := (blk_cell BK198.out 10).trans rfl; have hcz20_11 : w16.cell? ⟨gb198, 11, none⟩ = some (.int .i64 a0_11) := (blk_cell BK198.out 11).trans rfl; have hcz20_12 : w16.cell? ⟨gb198, 12, none⟩ = some (.int .i64 a0_12) := (blk_cell BK198.out 12).trans rfl; have hcz20_13 : w16.cell? ⟨gb198, 13, none⟩ = some (.int .i64 a0_13) := (blk_cell BK198.out 13).trans rfl; have hcz20_14 : w16.cell? ⟨gb198, 14, none⟩ = some (.int .i64 a0_14) := (blk_cell BK198.out 14).trans rfl; have hcz20_15 : w16.cell? ⟨gb198, 15, none⟩ = some (.int .i64 a0_15) := (blk_cell BK198.out 15).trans rfl; have hcz20_16 : w16.cell? ⟨gb198, 16, none⟩ = some (.int .i64 a0_16) := (blk_cell BK198.out 16).trans rfl; have hcz20_17 : w16.cell? ⟨gb198, 17, none⟩ = some (.int .i64 a0_17) := (blk_cell BK198.out 17).trans rfl; have hcz20_18 : w16.cell? ⟨gb198, 18, none⟩ = some (.slice A0_18 l0_18.length c0_18) := (blk_cell BK198.out 18).trans rfl; have hcz20_19 : w16.cell? ⟨gb198, 19, none⟩ = some (.slice A0_19 l0_19.length c0_19) := (blk_cell BK198.out 19).trans rfl; have hcz20_20 : w16.cell? ⟨gb198, 20, none⟩ = some (.slice A0_20 l0_20.length c0_20) := (blk_cell BK198.out 20).trans rfl; have hcz20_21 : w16.cell? ⟨gb198, 21, none⟩ = some (.bool a0_21) := (blk_cell BK198.out 21).trans rfl; have hfz20_0 := blk_frozen BK198.out 0; have hfz20_1 := blk_frozen BK198.out 1; have hfz20_2 := blk_frozen BK198.out 2; have hfz20_3 := blk_frozen BK198.out 3; have hfz20_4 := blk_frozen BK198.out 4; have hfz20_5 := blk_frozen BK198.out 5; have hfz20_6 := blk_frozen BK198.out 6; have hfz20_7 := blk_frozen BK198.out 7; have hfz20_8 := blk_frozen BK198.out 8; have hfz20_9 := blk_frozen BK198.out 9; have hfz20_10 := blk_frozen BK198.out 10; have hfz20_11 := blk_frozen BK198.out 11; have hfz20_12 := blk_frozen BK198.out 12; have hfz20_13 := blk_frozen BK198.out 13; have hfz20_14 := blk_frozen BK198.out 14; have hfz20_15 := blk_frozen BK198.out 15; have hfz20_16 := blk_frozen BK198.out 16; have hfz20_17 := blk_frozen BK198.out 17; have hfz20_18 := blk_frozen BK198.out 18; have hfz20_19 := blk_frozen BK198.out 19; have hfz20_20 := blk_frozen BK198.out 20; have hfz20_21 := blk_frozen BK198.out 21) | ((with_reducible refine gate_dst (N := 6) rfl ?_); refine box_event ?hg (N := 6) ?hd (cs := #[.int .i64 0, .int .i64 0, .int .i64 0, .int .i64 0, .int .i64 0, .slice none 0 0, .slice none 0 0, .slice none 0 0, .bool false]) (t := 34) ?hr ?_; (case hd => rfl); (case hg => rfl); (case hr => first | (go_simp; done) | (go_simp; rfl)); intro gb201 hg w21 hbox hb; have n0_ := zm (blk_below (g := gb198) (o := .cells #[.int .i64 a0_0, .int .i64 a0_1, .int .i64 a0_2, .int .i64 a0_3, .int .i64 a0_4, .slice A0_5 l0_5.length c0_5, .slice A0_6 l0_6.length c0_6, .slice A0_7 l0_7.length c0_7, .bool a0_8, .string a0_9, .int .i64 a0_10, .int .i64 a0_11, .int .i64 a0_12, .int .i64 a0_13, .int .i64 a0_14, .int .i64 a0_15, .int .i64 a0_16, .int .i64 a0_17, .slice A0_18 l0_18.length c0_18, .slice A0_19 l0_19.length c0_19, .slice A0_20 l0_20.length c0_20, .bool a0_21] 46 (0, 0)) (by (with_reducible repeat first | refine zk1 ?_ _ | refine zk2 ?_ | refine zk3 ?_ _); (iterate 3 refine blk_far ?_ NB198_200.out _); (with_reducible repeat first | refine zk1 ?_ _ | refine zk2 ?_ | refine zk3 ?_ _); exact BK198.out) hb); have n1_ := zm (blk_below (g := gb199) (o := .cells #[.int .i64 a0_0, .int .i64 a0_1, .int .i64 a0_2, .int .i64 a0_3, .int .i64 a0_4, .slice A0_5 l0_5.length c0_5, .slice A0_6 l0_6.length c0_6, .slice A0_7 l0_7.length c0_7, .bool a0_8] 34 (0, 0)) (by (with_reducible repeat first | refine zk1 ?_ _ | refine zk2 ?_ | refine zk3 ?_ _); (iterate 3 refine blk_far ?_ NB199_200.out _); (with_reducible repeat first | refine zk1 ?_ _ | refine zk2 ?_ | refine zk3 ?_ _); exact BK199.out) hb); have n2_ := zm (blk_below (g := gb200) (o := .cells #[.int .i64 a0_10, .int .i64 a0_11, .int .i64 a0_12] 23 (0, 0)) (by (with_reducible repeat first | refine zk1 ?_ _ | refine zk2 ?_ | refine zk3 ?_ _); exact put3 (by (with_reducible repeat first | refine zk1 ?_ _ | refine zk2 ?_ | refine zk3 ?_ _); exact BK200.out) _ _ _) hb); have n3_ := zm (below_step (by repeat (first | (with_reducible first | exact HB.out | apply zb1 | apply zb2 | apply zb3 | refine zb4 ?_ GE198.out | refine zb4 ?_ GE199.out | refine zb4 ?_ GE200.out) | exact HB.out)) hb); have n4_ := zm (hbox); have n5_ := zm ((by rw [hg]; exact (below_size (by repeat (first | (with_reducible first | exact HB.out | apply zb1 | apply zb2 | apply zb3 | refine zb4 ?_ GE198.out | refine zb4 ?_ GE199.out | refine zb4 ?_ GE200.out) | exact HB.out))) : w.heap.size ≤ gb201)); have n6_ := zm ((by rw [hg]; exact (below_size (by repeat (first | (with_reducible first | exact HB.out | apply zb1 | apply zb2 | apply zb3 | refine zb4 ?_ GE198.out | refine zb4 ?_ GE199.out | refine zb4 ?_ GE200.out) | exact HB.out))) : w.heap.size ≤ gb201)); have n7_ := zm ((by rw [hg]; exact Nat.ne_of_lt (blk_lt (g := gb198) (o := .cells #[.int .i64 a0_0, .int .i64 a0_1, .int .i64 a0_2, .int .i64 a0_3, .int .i64 a0_4, .slice A0_5 l0_5.length c0_5, .slice A0_6 l0_6.length c0_6, .slice A0_7 l0_7.length c0_7, .bool a0_8, .string a0_9, .int .i64 a0_10, .int .i64 a0_11, .int .i64 a0_12, .int .i64 a0_13, .int .i64 a0_14, .int .i64 a0_15, .int .i64 a0_16, .int .i64 a0_17, .slice A0_18 l0_18.length c0_18, .slice A0_19 l0_19.length c0_19, .slice A0_20 l0_20.length c0_20, .bool a0_21] 46 (0, 0)) (by (with_reducible repeat first | refine zk1 ?_ _ | refine zk2 ?_ | refine zk3 ?_ _); (iterate 3 refine blk_far ?_ NB198_200.out _); (with_reducible repeat first | refine zk1 ?_ _ | refine zk2 ?_ | refine zk3 ?_ _); exact BK198.out)) : gb198 ≠ gb201)); have n8_ := zm ((by rw [hg]; exact Nat.ne_of_gt (blk_lt (g := gb198) (o := .cells #[.int .i64 a0_0, .int .i64 a0_1, .int .i64 a0_2, .int .i64 a0_3, .int .i64 a0_4, .slice A0_5 l0_5.length c0_5, .slice A0_6 l0_6.length c0_6, .slice A0_7 l0_7.length c0_7, .bool a0_8, .string a0_9, .int .i64 a0_10, .int .i64 a0_11, .int .i64 a0_12, .int .i64 a0_13, .int .i64 a0_14, .int .i64 a0_15, .int .i64 a0_16, .int .i64 a0_17, .slice A0_18 l0_18.length c0_18, .slice A0_19 l0_19.length c0_19, .slice A0_20 l0_20.length c0_20, .bool a0_21] 46 (0, 0)) (by (with_reducible repeat first | refine zk1 ?_ _ | refine zk2 ?_ | refine zk3 ?_ _); (iterate 3 refine blk_far ?_ NB198_200.out _); (with_reducible repeat first | refine zk1 ?_ _ | refine zk2 ?_ | refine zk3 ?_ _); exact BK198.out)) : gb201 ≠ gb198)); have n9_ := zm ((by rw [hg]; exact Nat.ne_of_lt (blk_lt (g := gb199) (o := .cells #[.int .i64 a0_0, .int .i64 a0_1, .int .i64 a0_2, .int .i64 a0_3, .int .i64 a0_4, .slice A0_5 l0_5.length c0_5, .slice A0_6 l0_6.length c0_6, .slice A0_7 l0_7.length c0_7, .bool a0_8] 34 (0, 0)) (by (with_reducible repeat first | refine zk1 ?_ _ | refine zk2 ?_ | refine zk3 ?_ _); (iterate 3 refine blk_far ?_ NB199_200.out _); (with_reducible repeat first | refine zk1 ?_ _ | refine zk2 ?_ | refine zk3 ?_ _); exact BK199.out)) : gb199 ≠ gb201)); have n10_ := zm ((by rw [hg]; exact Nat.ne_of_gt (blk_lt (g := gb199) (o := .cells #[.int .i64 a0_0, .int .i64 a0_1, .int .i64 a0_2, .int .i64 a0_3, .int .i64 a0_4, .slice A0_5 l0_5.length c0_5, .slice A0_6 l0_6.length c0_6, .slice A0_7 l0_7.length c0_7, .bool a0_8] 34 (0, 0)) (by (with_reducible repeat first | refine zk1 ?_ _ | refine zk2 ?_ | refine zk3 ?_ _); (iterate 3 refine blk_far ?_ NB199_200.out _); (with_reducible repeat first | refine zk1 ?_ _ | refine zk2 ?_ | refine zk3 ?_ _); exact BK199.out)) : gb201 ≠ gb199)); have n11_ := zm ((by rw [hg]; exact Nat.ne_of_lt (blk_lt (g := gb200) (o := .cells #[.int .i64 a0_10, .int .i64 a0_11, .int .i64 a0_12] 23 (0, 0)) (by (with_reducible repeat first | refine zk1 ?_ _ | refine zk2 ?_ | refine zk3 ?_ _); exact put3 (by (with_reducible repeat first | refine zk1 ?_ _ | refine zk2 ?_ | refine zk3 ?_ _); exact BK200.out) _ _ _)) : gb200 ≠ gb201)); have n12_ := zm ((by rw [hg]; exact Nat.ne_of_gt (blk_lt (g := gb200) (o := .cells #[.int .i64 a0_10, .int .i64 a0_11, .int .i64 a0_12] 23 (0, 0)) (by (with_reducible repeat first | refine zk1 ?_ _ | refine zk2 ?_ | refine zk3 ?_ _); exact put3 (by (with_reducible repeat first | refine zk1 ?_ _ | refine zk2 ?_ | refine zk3 ?_ _); exact BK200.out) _ _ _)) : gb201 ≠ gb200)); clear BK198 BK199 BK200 HB; have BK198 := n0_; have BK199 := n1_; have BK200 := n2_; have HB := n3_; have BK201 := n4_; have GW201 := n5_; have GE201 := n6_; have NB198_201 := n7_; have NB201_198 := n8_; have NB199_201 := n9_; have NB201_199 := n10_; have NB200_201 := n11_; have NB201_200 := n12_; clear n0_ n1_ n2_ n3_ n4_ n5_ n6_ n7_ n8_ n9_ n10_ n11_ n12_; clear hb hbox hg; have hnb22 := NB201_198.out; have hnc22 := NB198_201.out; have hnb23 := NB201_199.out; have hnc23 := NB199_201.out; have hnb24 := NB201_200.out; have hnc24 := NB200_201.out; have hcz25_0 : w21.cell? ⟨gb201, 0, none⟩ = some (.int .i64 0) := (blk_cell BK201.out 0).trans rfl; have hcz25_1 : w21.cell? ⟨gb201, 1, none⟩ = some (.int .i64 0) := (blk_cell BK201.out 1).trans rfl; have hcz25_2 : w21.cell? ⟨gb201, 2, none⟩ = some (.int .i64 0) := (blk_cell BK201.out 2).trans rfl; have hcz25_3 : w21.cell? ⟨gb201, 3, none⟩ = some (.int .i64 0) := (blk_cell BK201.out 3).trans rfl; have hcz25_4 : w21.cell? ⟨gb201, 4, none⟩ = some (.int .i64 0) := (blk_cell BK201.out 4).trans rfl; have hcz25_5 : w21.cell? ⟨gb201, 5, none⟩ = some (.slice none 0 0) := (blk_cell BK201.out 5).trans rfl; have hcz25_6 : w21.cell? ⟨gb201, 6, none⟩ = some (.slice none 0 0) := (blk_cell BK201.out 6).trans rfl; have hcz25_7 : w21.cell? ⟨gb201, 7, none⟩ = some (.slice none 0 0) := (blk_cell BK201.out 7).trans rfl; have hcz25_8 : w21.cell? ⟨gb201, 8, none⟩ = some (.bool false) := (blk_cell BK201.out 8).trans rfl; have hfz25_0 := blk_frozen BK201.out 0; have hfz25_1 := blk_frozen BK201.out 1; have hfz25_2 := blk_frozen BK201.out 2; have hfz25_3 := blk_frozen BK201.out 3; have hfz25_4 := blk_frozen BK201.out 4; have hfz25_5 := blk_frozen BK201.out 5; have hfz25_6 := blk_frozen BK201.out 6; have hfz25_7 := blk_frozen BK201.out 7; have hfz25_8 := blk_frozen BK201.out 8) | ((with_reducible refine gate_callee (f := 8) rfl ?_); refine goesL_ (some 29) rfl rfl Tryd.func8 (by kernel_rfl) rfl #[] rfl (by (try simp only [List.map_toArray, List.map_cons, List.map_nil]); first | done | rfl | (simp only [List.length_drop, List.length_take]; rfl)) ?_; (with_reducible refine (tallysticklaw14_shown.calls  t202 _ A2.out).mono ?_); rintro e w26 ⟨rfl, hb⟩; clear A2; refine ⟨_, rfl, ?_⟩; have n0_ := zm (blk_below (g := gb198) (o := .cells #[.int .i64 a0_0, .int .i64 a0_1, .int .i64 a0_2, .int .i64 a0_3, .int .i64 a0_4, .slice A0_5 l0_5.length c0_5, .slice A0_6 l0_6.length c0_6, .slice A0_7 l0_7.length c0_7, .bool a0_8, .string a0_9, .int .i64 a0_10, .int .i64 a0_11, .int .i64 a0_12, .int .i64 a0_13, .int .i64 a0_14, .int .i64 a0_15, .int .i64 a0_16, .int .i64 a0_17, .slice A0_18 l0_18.length c0_18, .slice A0_19 l0_19.length c0_19, .slice A0_20 l0_20.length c0_20, .bool a0_21] 46 (0, 0)) (by (with_reducible repeat first | refine zk1 ?_ _ | refine zk2 ?_ | refine zk3 ?_ _); (iterate 9 refine blk_far ?_ NB198_201.out _); (with_reducible repeat first | refine zk1 ?_ _ | refine zk2 ?_ | refine zk3 ?_ _); exact BK198.out) hb); have n1_ := zm (blk_below (g := gb199) (o := .cells #[.int .i64 a0_0, .int .i64 a0_1, .int .i64 a0_2, .int .i64 a0_3, .int .i64 a0_4, .slice A0_5 l0_5.length c0_5, .slice A0_6 l0_6.length c0_6, .slice A0_7 l0_7.length c0_7, .bool a0_8] 34 (0, 0)) (by (with_reducible repeat first | refine zk1 ?_ _ | refine zk2 ?_ | refine zk3 ?_ _); (iterate 9 refine blk_far ?_ NB199_201.out _); (with_reducible repeat first | refine zk1 ?_ _ | refine zk2 ?_ | refine zk3 ?_ _); exact BK199.out) hb); have n2_ := zm (blk_below (g := gb200) (o := .cells #[.int .i64 a0_10, .int .i64 a0_11, .int .i64 a0_12] 23 (0, 0)) (by (with_reducible repeat first | refine zk1 ?_ _ | refine zk2 ?_ | refine zk3 ?_ _); (iterate 9 refine blk_far ?_ NB200_201.out _); (with_reducible repeat first | refine zk1 ?_ _ | refine zk2 ?_ | refine zk3 ?_ _); exact BK200.out) hb); have n3_ := zm (blk_below (g := gb201) (o := .cells #[.int .i64 a0_13, .int .i64 a0_14, .int .i64 a0_15, .int .i64 a0_16, .int .i64 a0_17, .slice A0_18 l0_18.length c0_18, .slice A0_19 l0_19.length c0_19, .slice A0_20 l0_20.length c0_20, .bool a0_21] 34 (0, 0)) (by (with_reducible repeat first | refine zk1 ?_ _ | refine zk2 ?_ | refine zk3 ?_ _); exact put9 (by (with_reducible repeat first | refine zk1 ?_ _ | refine zk2 ?_ | refine zk3 ?_ _); exact BK201.out) _ _ _ _ _ _ _ _ _) hb); have n4_ := zm (below_step (by repeat (first | (with_reducible first | exact HB.out | apply zb1 | apply zb2 | apply zb3 | refine zb4 ?_ GE198.out | refine zb4 ?_ GE199.out | refine zb4 ?_ GE200.out | refine zb4 ?_ GE201.out) | exact HB.out)) hb); clear BK198 BK199 BK200 BK201 HB; have BK198 := n0_; have BK199 := n1_; have BK200 := n2_; have BK201 := n3_; have HB := n4_; clear n0_ n1_ n2_ n3_ n4_; (try clear hb); (try clear hb2); (try clear hk); (try clear hi); have hcz27_0 : w26.cell? ⟨gb199, 0, none⟩ = some (.int .i64 a0_0) := (blk_cell BK199.out 0).trans rfl; have hcz27_1 : w26.cell? ⟨gb199, 1, none⟩ = some (.int .i64 a0_1) := (blk_cell BK199.out 1).trans rfl; have hcz27_2 : w26.cell? ⟨gb199, 2, none⟩ = some (.int .i64 a0_2) := (blk_cell BK199.out 2).trans rfl; have hcz27_3 : w26.cell? ⟨gb199, 3, none⟩ = some (.int .i64 a0_3) := (blk_cell BK199.out 3).trans rfl; have hcz27_4 : w26.cell? ⟨gb199, 4, none⟩ = some (.int .i64 a0_4) := (blk_cell BK199.out 4).trans rfl; have hcz27_5 : w26.cell? ⟨gb199, 5, none⟩ = some (.slice A0_5 l0_5.length c0_5) := (blk_cell BK199.out 5).trans rfl; have hcz27_6 : w26.cell? ⟨gb199, 6, none⟩ = some (.slice A0_6 l0_6.length c0_6) := (blk_cell BK199.out 6).trans rfl; have hcz27_7 : w26.cell? ⟨gb199, 7, none⟩ = some (.slice A0_7 l0_7.length c0_7) := (blk_cell BK199.out 7).trans rfl; have hcz27_8 : w26.cell? ⟨gb199, 8, none⟩ = some (.bool a0_8) := (blk_cell BK199.out 8).trans rfl; have hfz27_0 := blk_frozen BK199.out 0; have hfz27_1 := blk_frozen BK199.out 1; have hfz27_2 := blk_frozen BK199.out 2; have hfz27_3 := blk_frozen BK199.out 3; have hfz27_4 := blk_frozen BK199.out 4; have hfz27_5 := blk_frozen BK199.out 5; have hfz27_6 := blk_frozen BK199.out 6; have hfz27_7 := blk_frozen BK199.out 7; have hfz27_8 := blk_frozen BK199.out 8) | ((with_reducible refine gate_callee (f := 11) rfl ?_); refine goesL_ (some 32) rfl rfl Tryd.func11 (by kernel_rfl) rfl #[.agg #[.int .i64 a0_0, .int .i64 a0_1, .int .i64 a0_2, .int .i64 a0_3, .int .i64 a0_4, .slice A0_5 l0_5.length c0_5, .slice A0_6 l0_6.length c0_6, .slice A0_7 l0_7.length c0_7, .bool a0_8]] rfl (by (try simp only [List.map_toArray, List.map_cons, List.map_nil]); first | done | rfl | (simp only [List.length_drop, List.length_take]; rfl)) ?_; (with_reducible refine (crc_Bytes.calls k a0_0 a0_1 a0_2 a0_3 a0_4 (fun k_ => k_ < w.heap.size) _ _ l0_5 (fun k_ => k_ < w.heap.size) _ _ l0_6 (fun k_ => k_ < w.heap.size) _ _ l0_7 a0_8 t203 t204 _ ?side1 ?side2 ?side3 A3.out).mono ?_); (case side1 => exact Kd.V_mk HC0_5.out (Kd.F_below (Kd.C_F (Kd.heap_int .u64) HR0_5.out) (by repeat (first | (with_reducible first | exact HB.out | apply zb1 | apply zb2 | apply zb3 | refine zb4 ?_ GE198.out | refine zb4 ?_ GE199.out | refine zb4 ?_ GE200.out | refine zb4 ?_ GE201.out) | exact HB.out)))); (case side2 => exact Kd.V_mk HC0_6.out (Kd.F_below (Kd.C_F (Kd.heap_int .u64) HR0_6.out) (by repeat (first | (with_reducible first | exact HB.out | apply zb1 | apply zb2 | apply zb3 | refine zb4 ?_ GE198.out | refine zb4 ?_ GE199.out | refine zb4 ?_ GE200.out | refine zb4 ?_ GE201.out) | exact HB.out)))); (case side3 => exact Kd.V_mk HC0_7.out (Kd.F_below (Kd.C_F (Kd.heap_int .u64) HR0_7.out) (by repeat (first | (with_reducible first | exact HB.out | apply zb1 | apply zb2 | apply zb3 | refine zb4 ?_ GE198.out | refine zb4 ?_ GE199.out | refine zb4 ?_ GE200.out | refine zb4 ?_ GE201.out) | exact HB.out)))); rintro e w28 ⟨rfl, hb⟩; clear A3; refine ⟨_, rfl, ?_⟩; have n0_ := zm (blk_below (g := gb198) (o := .cells #[.int .i64 a0_0, .int .i64 a0_1, .int .i64 a0_2, .int .i64 a0_3, .int .i64 a0_4, .slice A0_5 l0_5.length c0_5, .slice A0_6 l0_6.length c0_6, .slice A0_7 l0_7.length c0_7, .bool a0_8, .string a0_9, .int .i64 a0_10, .int .i64 a0_11, .int .i64 a0_12, .int .i64 a0_13, .int .i64 a0_14, .int .i64 a0_15, .int .i64 a0_16, .int .i64 a0_17, .slice A0_18 l0_18.length c0_18, .slice A0_19 l0_19.length c0_19, .slice A0_20 l0_20.length c0_20, .bool a0_21] 46 (0, 0)) (by (with_reducible repeat first | refine zk1 ?_ _ | refine zk2 ?_ | refine zk3 ?_ _); exact BK198.out) hb); have n1_ := zm (blk_below (g := gb199) (o := .cells #[.int .i64 a0_0, .int .i64 a0_1, .int .i64 a0_2, .int .i64 a0_3, .int .i64 a0_4, .slice A0_5 l0_5.length c0_5, .slice A0_6 l0_6.length c0_6, .slice A0_7 l0_7.length c0_7, .bool a0_8] 34 (0, 0)) (by (with_reducible repeat first | refine zk1 ?_ _ | refine zk2 ?_ | refine zk3 ?_ _); exact BK199.out) hb); have n2_ := zm (blk_below (g := gb200) (o := .cells #[.int .i64 a0_10, .int .i64 a0_11, .int .i64 a0_12] 23 (0, 0)) (by (with_reducible repeat first | refine zk1 ?_ _ | refine zk2 ?_ | refine zk3 ?_ _); exact BK200.out) hb); have n3_ := zm (blk_below (g := gb201) (o := .cells #[.int .i64 a0_13, .int .i64 a0_14, .int .i64 a0_15, .int .i64 a0_16, .int .i64 a0_17, .slice A0_18 l0_18.length c0_18, .slice A0_19 l0_19.length c0_19, .slice A0_20 l0_20.length c0_20, .bool a0_21] 34 (0, 0)) (by (with_reducible repeat first | refine zk1 ?_ _ | refine zk2 ?_ | refine zk3 ?_ _); exact BK201.out) hb); have n4_ := zm (below_step (by repeat (first | (with_reducible first | exact HB.out | apply zb1 | apply zb2 | apply zb3 | refine zb4 ?_ GE198.out | refine zb4 ?_ GE199.out | refine zb4 ?_ GE200.out | refine zb4 ?_ GE201.out) | exact HB.out)) hb); clear BK198 BK199 BK200 BK201 HB; have BK198 := n0_; have BK199 := n1_; have BK200 := n2_; have BK201 := n3_; have HB := n4_; clear n0_ n1_ n2_ n3_ n4_; (try clear hb); (try clear hb2); (try clear hk); (try clear hi); have hcz29_0 : w28.cell? ⟨gb199, 0, none⟩ = some (.int .i64 a0_0) := (blk_cell BK199.out 0).trans rfl; have hcz29_1 : w28.cell? ⟨gb199, 1, none⟩ = some (.int .i64 a0_1) := (blk_cell BK199.out 1).trans rfl; have hcz29_2 : w28.cell? ⟨gb199, 2, none⟩ = some (.int .i64 a0_2) := (blk_cell BK199.out 2).trans rfl; have hcz29_3 : w28.cell? ⟨gb199, 3, none⟩ = some (.int .i64 a0_3) := (blk_cell BK199.out 3).trans rfl; have hcz29_4 : w28.cell? ⟨gb199, 4, none⟩ = some (.int .i64 a0_4) := (blk_cell BK199.out 4).trans rfl; have hcz29_5 : w28.cell? ⟨gb199, 5, none⟩ = some (.slice A0_5 l0_5.length c0_5) := (blk_cell BK199.out 5).trans rfl; have hcz29_6 : w28.cell? ⟨gb199, 6, none⟩ = some (.slice A0_6 l0_6.length c0_6) := (blk_cell BK199.out 6).trans rfl; have hcz29_7 : w28.cell? ⟨gb199, 7, none⟩ = some (.slice A0_7 l0_7.length c0_7) := (blk_cell BK199.out 7).trans rfl; have hcz29_8 : w28.cell? ⟨gb199, 8, none⟩ = some (.bool a0_8) := (blk_cell BK199.out 8).trans rfl; have hfz29_0 := blk_frozen BK199.out 0; have hfz29_1 := blk_frozen BK199.out 1; have hfz29_2 := blk_frozen BK199.out 2; have hfz29_3 := blk_frozen BK199.out 3; have hfz29_4 := blk_frozen BK199.out 4; have hfz29_5 := blk_frozen BK199.out 5; have hfz29_6 := blk_frozen BK199.out 6; have hfz29_7 := blk_frozen BK199.out 7; have hfz29_8 := blk_frozen BK199.out 8) | ((with_reducible refine gate_callee (f := 13) rfl ?_); refine goesL_ (some 37) rfl rfl Tryd.func13 (by kernel_rfl) rfl #[.agg #[.int .i64 a0_0, .int .i64 a0_1, .int .i64 a0_2, .int .i64 a0_3, .int .i64 a0_4, .slice A0_5 l0_5.length c0_5, .slice A0_6 l0_6.length c0_6, .slice A0_7 l0_7.length c0_7, .bool a0_8]] rfl (by (try simp only [List.map_toArray, List.map_cons, List.map_nil]); first | done | rfl | (simp only [List.length_drop, List.length_take]; rfl)) ?_; (with_reducible refine (tallystickref14_Bytes.calls k a0_0 a0_1 a0_2 a0_3 a0_4 _ _ l0_5 _ _ l0_6 _ _ l0_7 a0_8 t205 t206 _ ?side1 ?side2 ?side3 ?side4 ?side5 ?side6 A4.out).mono ?_); (case side1 => repeat (first | exact (Kd.C_below HR0_5.out HB.out) | (with_reducible refine Kd.C_alloc ?_ _) | (with_reducible refine Kd.C_drewN ?_ _) | (with_reducible refine Kd.C_drew ?_))); (case side2 => exact HC0_5.out); (case side3 => repeat (first | exact (Kd.C_below HR0_6.out HB.out) | (with_reducible refine Kd.C_alloc ?_ _) | (with_reducible refine Kd.C_drewN ?_ _) | (with_reducible refine Kd.C_drew ?_))); (case side4 => exact HC0_6.out); (case side5 => repeat (first | exact (Kd.C_below HR0_7.out HB.out) | (with_reducible refine Kd.C_alloc ?_ _) | (with_reducible refine Kd.C_drewN ?_ _) | (with_reducible refine Kd.C_drew ?_))); (case side6 => exact HC0_7.out); rintro e w30 ⟨rfl, hb⟩; clear A4; refine ⟨_, rfl, ?_⟩; have n0_ := zm (blk_below (g := gb198) (o := .cells #[.int .i64 a0_0, .int .i64 a0_1, .int .i64 a0_2, .int .i64 a0_3, .int .i64 a0_4, .slice A0_5 l0_5.length c0_5, .slice A0_6 l0_6.length c0_6, .slice A0_7 l0_7.length c0_7, .bool a0_8, .string a0_9, .int .i64 a0_10, .int .i64 a0_11, .int .i64 a0_12, .int .i64 a0_13, .int .i64 a0_14, .int .i64 a0_15, .int .i64 a0_16, .int .i64 a0_17, .slice A0_18 l0_18.length c0_18, .slice A0_19 l0_19.length c0_19, .slice A0_20 l0_20.length c0_20, .bool a0_21] 46 (0, 0)) (by (with_reducible repeat first | refine zk1 ?_ _ | refine zk2 ?_ | refine zk3 ?_ _); exact BK198.out) hb); have n1_ := zm (blk_below (g := gb199) (o := .cells #[.int .i64 a0_0, .int .i64 a0_1, .int .i64 a0_2, .int .i64 a0_3, .int .i64 a0_4, .slice A0_5 l0_5.length c0_5, .slice A0_6 l0_6.length c0_6, .slice A0_7 l0_7.length c0_7, .bool a0_8] 34 (0, 0)) (by (with_reducible repeat first | refine zk1 ?_ _ | refine zk2 ?_ | refine zk3 ?_ _); exact BK199.out) hb); have n2_ := zm (blk_below (g := gb200) (o := .cells #[.int .i64 a0_10, .int .i64 a0_11, .int .i64 a0_12] 23 (0, 0)) (by (with_reducible repeat first | refine zk1 ?_ _ | refine zk2 ?_ | refine zk3 ?_ _); exact BK200.out) hb); have n3_ := zm (blk_below (g := gb201) (o := .cells #[.int .i64 a0_13, .int .i64 a0_14, .int .i64 a0_15, .int .i64 a0_16, .int .i64 a0_17, .slice A0_18 l0_18.length c0_18, .slice A0_19 l0_19.length c0_19, .slice A0_20 l0_20.length c0_20, .bool a0_21] 34 (0, 0)) (by (with_reducible repeat first | refine zk1 ?_ _ | refine zk2 ?_ | refine zk3 ?_ _); exact BK201.out) hb); have n4_ := zm (below_step (by repeat (first | (with_reducible first | exact HB.out | apply zb1 | apply zb2 | apply zb3 | refine zb4 ?_ GE198.out | refine zb4 ?_ GE199.out | refine zb4 ?_ GE200.out | refine zb4 ?_ GE201.out) | exact HB.out)) hb); clear BK198 BK199 BK200 BK201 HB; have BK198 := n0_; have BK199 := n1_; have BK200 := n2_; have BK201 := n3_; have HB := n4_; clear n0_ n1_ n2_ n3_ n4_; (try clear hb); (try clear hb2); (try clear hk); (try clear hi)) | ((with_reducible refine gate_callee (f := 10) rfl ?_); refine goesL_ (some 42) rfl rfl Tryd.func10 (by kernel_rfl) rfl #[.string a0_9] rfl (by (try simp only [List.map_toArray, List.map_cons, List.map_nil]); first | done | rfl | (simp only [List.length_drop, List.length_take]; rfl)) ?_; (with_reducible refine (crc_Take.calls a0_9 t207 t208 t209 t210 t211 t212 t215 t218 t221 t222 _ A5.out (HPR.out.later (by repeat (first | (with_reducible first | exact HB.out | apply zb1 | apply zb2 | apply zb3 | refine zb4 ?_ GE198.out | refine zb4 ?_ GE199.out | refine zb4 ?_ GE200.out | refine zb4 ?_ GE201.out) | exact HB.out)))).mono ?_); rintro e w31 ⟨v213, v216, v219, rfl, ho0, ho1, ho2, hb⟩; refine ⟨_, rfl, ?_⟩; have n0_ := zm (Kd.V_lower (Kd.V_mono (ok' := fun k_ => k_ ≠ gb198 ∧ k_ ≠ gb199 ∧ k_ ≠ gb200 ∧ k_ ≠ gb201) ho0 (fun k_ hk_ => ⟨(Kd.freshB (g := gb198) (o := .cells #[.int .i64 a0_0, .int .i64 a0_1, .int .i64 a0_2, .int .i64 a0_3, .int .i64 a0_4, .slice A0_5 l0_5.length c0_5, .slice A0_6 l0_6.length c0_6, .slice A0_7 l0_7.length c0_7, .bool a0_8, .string a0_9, .int .i64 a0_10, .int .i64 a0_11, .int .i64 a0_12, .int .i64 a0_13, .int .i64 a0_14, .int .i64 a0_15, .int .i64 a0_16, .int .i64 a0_17, .slice A0_18 l0_18.length c0_18, .slice A0_19 l0_19.length c0_19, .slice A0_20 l0_20.length c0_20, .bool a0_21] 46 (0, 0)) (by (with_reducible repeat first | refine zk1 ?_ _ | refine zk2 ?_ | refine zk3 ?_ _); exact BK198.out) k_ hk_), (Kd.freshB (g := gb199) (o := .cells #[.int .i64 a0_0, .int .i64 a0_1, .int .i64 a0_2, .int .i64 a0_3, .int .i64 a0_4, .slice A0_5 l0_5.length c0_5, .slice A0_6 l0_6.length c0_6, .slice A0_7 l0_7.length c0_7, .bool a0_8] 34 (0, 0)) (by (with_reducible repeat first | refine zk1 ?_ _ | refine zk2 ?_ | refine zk3 ?_ _); exact BK199.out) k_ hk_), (Kd.freshB (g := gb200) (o := .cells #[.int .i64 a0_10, .int .i64 a0_11, .int .i64 a0_12] 23 (0, 0)) (by (with_reducible repeat first | refine zk1 ?_ _ | refine zk2 ?_ | refine zk3 ?_ _); exact BK200.out) k_ hk_), (Kd.freshB (g := gb201) (o := .cells #[.int .i64 a0_13, .int .i64 a0_14, .int .i64 a0_15, .int .i64 a0_16, .int .i64 a0_17, .slice A0_18 l0_18.length c0_18, .slice A0_19 l0_19.length c0_19, .slice A0_20 l0_20.length c0_20, .bool a0_21] 34 (0, 0)) (by (with_reducible repeat first | refine zk1 ?_ _ | refine zk2 ?_ | refine zk3 ?_ _); exact BK201.out) k_ hk_)⟩)) (below_size (by repeat (first | (with_reducible first | exact HB.out | apply zb1 | apply zb2 | apply zb3 | refine zb4 ?_ GE198.out | refine zb4 ?_ GE199.out | refine zb4 ?_ GE200.out | refine zb4 ?_ GE201.out) | exact HB.out)))); have n1_ := zm (Kd.V_lower (Kd.V_mono (ok' := fun k_ => k_ ≠ gb198 ∧ k_ ≠ gb199 ∧ k_ ≠ gb200 ∧ k_ ≠ gb201) ho1 (fun k_ hk_ => ⟨(Kd.freshB (g := gb198) (o := .cells #[.int .i64 a0_0, .int .i64 a0_1, .int .i64 a0_2, .int .i64 a0_3, .int .i64 a0_4, .slice A0_5 l0_5.length c0_5, .slice A0_6 l0_6.length c0_6, .slice A0_7 l0_7.length c0_7, .bool a0_8, .string a0_9, .int .i64 a0_10, .int .i64 a0_11, .int .i64 a0_12, .int .i64 a0_13, .int .i64 a0_14, .int .i64 a0_15, .int .i64 a0_16, .int .i64 a0_17, .slice A0_18 l0_18.length c0_18, .slice A0_19 l0_19.length c0_19, .slice A0_20 l0_20.length c0_20, .bool a0_21] 46 (0, 0)) (by (with_reducible repeat first | refine zk1 ?_ _ | refine zk2 ?_ | refine zk3 ?_ _); exact BK198.out) k_ hk_), (Kd.freshB (g := gb199) (o := .cells #[.int .i64 a0_0, .int .i64 a0_1, .int .i64 a0_2, .int .i64 a0_3, .int .i64 a0_4, .slice A0_5 l0_5.length c0_5, .slice A0_6 l0_6.length c0_6, .slice A0_7 l0_7.length c0_7, .bool a0_8] 34 (0, 0)) (by (with_reducible repeat first | refine zk1 ?_ _ | refine zk2 ?_ | refine zk3 ?_ _); exact BK199.out) k_ hk_), (Kd.freshB (g := gb200) (o := .cells #[.int .i64 a0_10, .int .i64 a0_11, .int .i64 a0_12] 23 (0, 0)) (by (with_reducible repeat first | refine zk1 ?_ _ | refine zk2 ?_ | refine zk3 ?_ _); exact BK200.out) k_ hk_), (Kd.freshB (g := gb201) (o := .cells #[.int .i64 a0_13, .int .i64 a0_14, .int .i64 a0_15, .int .i64 a0_16, .int .i64 a0_17, .slice A0_18 l0_18.length c0_18, .slice A0_19 l0_19.length c0_19, .slice A0_20 l0_20.length c0_20, .bool a0_21] 34 (0, 0)) (by (with_reducible repeat first | refine zk1 ?_ _ | refine zk2 ?_ | refine zk3 ?_ _); exact BK201.out) k_ hk_)⟩)) (below_size (by repeat (first | (with_reducible first | exact HB.out | apply zb1 | apply zb2 | apply zb3 | refine zb4 ?_ GE198.out | refine zb4 ?_ GE199.out | refine zb4 ?_ GE200.out | refine zb4 ?_ GE201.out) | exact HB.out)))); have n2_ := zm (Kd.V_lower (Kd.V_mono (ok' := fun k_ => k_ ≠ gb198 ∧ k_ ≠ gb199 ∧ k_ ≠ gb200 ∧ k_ ≠ gb201) ho2 (fun k_ hk_ => ⟨(Kd.freshB (g := gb198) (o := .cells #[.int .i64 a0_0, .int .i64 a0_1, .int .i64 a0_2, .int .i64 a0_3, .int .i64 a0_4, .slice A0_5 l0_5.length c0_5, .slice A0_6 l0_6.length c0_6, .slice A0_7 l0_7.length c0_7, .bool a0_8, .string a0_9, .int .i64 a0_10, .int .i64 a0_11, .int .i64 a0_12, .int .i64 a0_13, .int .i64 a0_14, .int .i64 a0_15, .int .i64 a0_16, .int .i64 a0_17, .slice A0_18 l0_18.length c0_18, .slice A0_19 l0_19.length c0_19, .slice A0_20 l0_20.length c0_20, .bool a0_21] 46 (0, 0)) (by (with_reducible repeat first | refine zk1 ?_ _ | refine zk2 ?_ | refine zk3 ?_ _); exact BK198.out) k_ hk_), (Kd.freshB (g := gb199) (o := .cells #[.int .i64 a0_0, .int .i64 a0_1, .int .i64 a0_2, .int .i64 a0_3, .int .i64 a0_4, .slice A0_5 l0_5.length c0_5, .slice A0_6 l0_6.length c0_6, .slice A0_7 l0_7.length c0_7, .bool a0_8] 34 (0, 0)) (by (with_reducible repeat first | refine zk1 ?_ _ | refine zk2 ?_ | refine zk3 ?_ _); exact BK199.out) k_ hk_), (Kd.freshB (g := gb200) (o := .cells #[.int .i64 a0_10, .int .i64 a0_11, .int .i64 a0_12] 23 (0, 0)) (by (with_reducible repeat first | refine zk1 ?_ _ | refine zk2 ?_ | refine zk3 ?_ _); exact BK200.out) k_ hk_), (Kd.freshB (g := gb201) (o := .cells #[.int .i64 a0_13, .int .i64 a0_14, .int .i64 a0_15, .int .i64 a0_16, .int .i64 a0_17, .slice A0_18 l0_18.length c0_18, .slice A0_19 l0_19.length c0_19, .slice A0_20 l0_20.length c0_20, .bool a0_21] 34 (0, 0)) (by (with_reducible repeat first | refine zk1 ?_ _ | refine zk2 ?_ | refine zk3 ?_ _); exact BK201.out) k_ hk_)⟩)) (below_size (by repeat (first | (with_reducible first | exact HB.out | apply zb1 | apply zb2 | apply zb3 | refine zb4 ?_ GE198.out | refine zb4 ?_ GE199.out | refine zb4 ?_ GE200.out | refine zb4 ?_ GE201.out) | exact HB.out)))); have n3_ := zm (blk_below (g := gb198) (o := .cells #[.int .i64 a0_0, .int .i64 a0_1, .int .i64 a0_2, .int .i64 a0_3, .int .i64 a0_4, .slice A0_5 l0_5.length c0_5, .slice A0_6 l0_6.length c0_6, .slice A0_7 l0_7.length c0_7, .bool a0_8, .string a0_9, .int .i64 a0_10, .int .i64 a0_11, .int .i64 a0_12, .int .i64 a0_13, .int .i64 a0_14, .int .i64 a0_15, .int .i64 a0_16, .int .i64 a0_17, .slice A0_18 l0_18.length c0_18, .slice A0_19 l0_19.length c0_19, .slice A0_20 l0_20.length c0_20, .bool a0_21] 46 (0, 0)) (by (with_reducible repeat first | refine zk1 ?_ _ | refine zk2 ?_ | refine zk3 ?_ _); exact BK198.out) hb); have n4_ := zm (blk_below (g := gb199) (o := .cells #[.int .i64 a0_0, .int .i64 a0_1, .int .i64 a0_2, .int .i64 a0_3, .int .i64 a0_4, .slice A0_5 l0_5.length c0_5, .slice A0_6 l0_6.length c0_6, .slice A0_7 l0_7.length c0_7, .bool a0_8] 34 (0, 0)) (by (with_reducible repeat first | refine zk1 ?_ _ | refine zk2 ?_ | refine zk3 ?_ _); exact BK199.out) hb); have n5_ := zm (blk_below (g := gb200) (o := .cells #[.int .i64 a0_10, .int .i64 a0_11, .int .i64 a0_12] 23 (0, 0)) (by (with_reducible repeat first | refine zk1 ?_ _ | refine zk2 ?_ | refine zk3 ?_ _); exact BK200.out) hb); have n6_ := zm (blk_below (g := gb201) (o := .cells #[.int .i64 a0_13, .int .i64 a0_14, .int .i64 a0_15, .int .i64 a0_16, .int .i64 a0_17, .slice A0_18 l0_18.length c0_18, .slice A0_19 l0_19.length c0_19, .slice A0_20 l0_20.length c0_20, .bool a0_21] 34 (0, 0)) (by (with_reducible repeat first | refine zk1 ?_ _ | refine zk2 ?_ | refine zk3 ?_ _); exact BK201.out) hb); have n7_ := zm (below_step (by repeat (first | (with_reducible first | exact HB.out | apply zb1 | apply zb2 | apply zb3 | refine zb4 ?_ GE198.out | refine zb4 ?_ GE199.out | refine zb4 ?_ GE200.out | refine zb4 ?_ GE201.out) | exact HB.out)) hb); clear BK198 BK199 BK200 BK201 HB; have HO214 := n0_; have HO217 := n1_; have HO220 := n2_; have BK198 := n3_; have BK199 := n4_; have BK200 := n5_; have BK201 := n6_; have HB := n7_; clear n0_ n1_ n2_ n3_ n4_ n5_ n6_ n7_; (try clear hb); (try clear hb2); (try clear hk); (try clear hi); (try clear ho0); (try clear ho1); (try clear ho2)) | ((with_reducible refine gate_dst (N := 12) rfl ?_); refine box_event ?hg (N := 12) ?hd (cs := #[.int .i64 0, .int .i64 0, .int .i64 0, .int .i64 0, .int .i64 0, .slice none 0 0, .slice none 0 0, .slice none 0 0, .bool false]) (t := 34) ?hr ?_; (case hd => rfl); (case hg => rfl); (case hr => first | (go_simp; done) | (go_simp; rfl)); intro gb223 hg w32 hbox hb; have n0_ := zm (Kd.V_below (Kd.V_elderB (by (with_reducible repeat first | apply ze1 | apply ze2 | apply ze3); exact HO214.out) gb223 (Nat.le_of_eq hg.symm)) hb); have n1_ := zm (Kd.V_below (Kd.V_elderB (by (with_reducible repeat first | apply ze1 | apply ze2 | apply ze3); exact HO217.out) gb223 (Nat.le_of_eq hg.symm)) hb); have n2_ := zm (Kd.V_below (Kd.V_elderB (by (with_reducible repeat first | apply ze1 | apply ze2 | apply ze3); exact HO220.out) gb223 (Nat.le_of_eq hg.symm)) hb); have n3_ := zm (blk_below (g := gb198) (o := .cells #[.int .i64 a0_0, .int .i64 a0_1, .int .i64 a0_2, .int .i64 a0_3, .int .i64 a0_4, .slice A0_5 l0_5.length c0_5, .slice A0_6 l0_6.length c0_6, .slice A0_7 l0_7.length c0_7, .bool a0_8, .string a0_9, .int .i64 a0_10, .int .i64 a0_11, .int .i64 a0_12, .int .i64 a0_13, .int .i64 a0_14, .int .i64 a0_15, .int .i64 a0_16, .int .i64 a0_17, .slice A0_18 l0_18.length c0_18, .slice A0_19 l0_19.length c0_19, .slice A0_20 l0_20.length c0_20, .bool a0_21] 46 (0, 0)) (by (with_reducible repeat first | refine zk1 ?_ _ | refine zk2 ?_ | refine zk3 ?_ _); exact BK198.out) hb); have n4_ := zm (blk_below (g := gb199) (o := .cells #[.int .i64 a0_0, .int .i64 a0_1, .int .i64 a0_2, .int .i64 a0_3, .int .i64 a0_4, .slice A0_5 l0_5.length c0_5, .slice A0_6 l0_6.length c0_6, .slice A0_7 l0_7.length c0_7, .bool a0_8] 34 (0, 0)) (by (with_reducible repeat first | refine zk1 ?_ _ | refine zk2 ?_ | refine zk3 ?_ _); exact BK199.out) hb); have n5_ := zm (blk_below (g := gb200) (o := .cells #[.int .i64 a0_10, .int .i64 a0_11, .int .i64 a0_12] 23 (0, 0)) (by (with_reducible repeat first | refine zk1 ?_ _ | refine zk2 ?_ | refine zk3 ?_ _); exact BK200.out) hb); have n6_ := zm (blk_below (g := gb201) (o := .cells #[.int .i64 a0_13, .int .i64 a0_14, .int .i64 a0_15, .int .i64 a0_16, .int .i64 a0_17, .slice A0_18 l0_18.length c0_18, .slice A0_19 l0_19.length c0_19, .slice A0_20 l0_20.length c0_20, .bool a0_21] 34 (0, 0)) (by (with_reducible repeat first | refine zk1 ?_ _ | refine zk2 ?_ | refine zk3 ?_ _); exact BK201.out) hb); have n7_ := zm (below_step (by repeat (first | (with_reducible first | exact HB.out | apply zb1 | apply zb2 | apply zb3 | refine zb4 ?_ GE198.out | refine zb4 ?_ GE199.out | refine zb4 ?_ GE200.out | refine zb4 ?_ GE201.out) | exact HB.out)) hb); have n8_ := zm (hbox); have n9_ := zm ((by rw [hg]; exact (below_size (by repeat (first | (with_reducible first | exact HB.out | apply zb1 | apply zb2 | apply zb3 | refine zb4 ?_ GE198.out | refine zb4 ?_ GE199.out | refine zb4 ?_ GE200.out | refine zb4 ?_ GE201.out) | exact HB.out))) : w.heap.size ≤ gb223)); have n10_ := zm ((by rw [hg]; exact (below_size (by repeat (first | (with_reducible first | exact HB.out | apply zb1 | apply zb2 | apply zb3 | refine zb4 ?_ GE198.out | refine zb4 ?_ GE199.out | refine zb4 ?_ GE200.out | refine zb4 ?_ GE201.out) | exact HB.out))) : w.heap.size ≤ gb223)); have n11_ := zm ((by rw [hg]; exact Nat.ne_of_lt (blk_lt (g := gb198) (by (with_reducible repeat first | refine zk1 ?_ _ | refine zk2 ?_ | refine zk3 ?_ _); exact BK198.out)) : gb198 ≠ gb223)); have n12_ := zm ((by rw [hg]; exact Nat.ne_of_gt (blk_lt (g := gb198) (by (with_reducible repeat first | refine zk1 ?_ _ | refine zk2 ?_ | refine zk3 ?_ _); exact BK198.out)) : gb223 ≠ gb198)); have n13_ := zm ((by rw [hg]; exact Nat.ne_of_lt (blk_lt (g := gb199) (by (with_reducible repeat first | refine zk1 ?_ _ | refine zk2 ?_ | refine zk3 ?_ _); exact BK199.out)) : gb199 ≠ gb223)); have n14_ := zm ((by rw [hg]; exact Nat.ne_of_gt (blk_lt (g := gb199) (by (with_reducible repeat first | refine zk1 ?_ _ | refine zk2 ?_ | refine zk3 ?_ _); exact BK199.out)) : gb223 ≠ gb199)); have n15_ := zm ((by rw [hg]; exact Nat.ne_of_lt (blk_lt (g := gb200) (by (with_reducible repeat first | refine zk1 ?_ _ | refine zk2 ?_ | refine zk3 ?_ _); exact BK200.out)) : gb200 ≠ gb223)); have n16_ := zm ((by rw [hg]; exact Nat.ne_of_gt (blk_lt (g := gb200) (by (with_reducible repeat first | refine zk1 ?_ _ | refine zk2 ?_ | refine zk3 ?_ _); exact BK200.out)) : gb223 ≠ gb200)); have n17_ := zm ((by rw [hg]; exact Nat.ne_of_lt (blk_lt (g := gb201) (by (with_reducible repeat first | refine zk1 ?_ _ | refine zk2 ?_ | refine zk3 ?_ _); exact BK201.out)) : gb201 ≠ gb223)); have n18_ := zm ((by rw [hg]; exact Nat.ne_of_gt (blk_lt (g := gb201) (by (with_reducible repeat first | refine zk1 ?_ _ | refine zk2 ?_ | refine zk3 ?_ _); exact BK201.out)) : gb223 ≠ gb201)); clear HO214 HO217 HO220 BK198 BK199 BK200 BK201 HB; have HO214 := n0_; have HO217 := n1_; have HO220 := n2_; have BK198 := n3_; have BK199 := n4_; have BK200 := n5_; have BK201 := n6_; have HB := n7_; have BK223 := n8_; have GW223 := n9_; have GE223 := n10_; have NB198_223 := n11_; have NB223_198 := n12_; have NB199_223 := n13_; have NB223_199 := n14_; have NB200_223 := n15_; have NB223_200 := n16_; have NB201_223 := n17_; have NB223_201 := n18_; clear n0_ n1_ n2_ n3_ n4_ n5_ n6_ n7_ n8_ n9_ n10_ n11_ n12_ n13_ n14_ n15_ n16_ n17_ n18_; clear hb hbox hg; have hnb33 := NB223_198.out; have hnc33 := NB198_223.out; have hnb34 := NB223_199.out; have hnc34 := NB199_223.out; have hnb35 := NB223_200.out; have hnc35 := NB200_223.out; have hnb36 := NB223_201.out; have hnc36 := NB201_223.out; have hcz37_0 : w32.cell? ⟨gb223, 0, none⟩ = some (.int .i64 0) := (blk_cell BK223.out 0).trans rfl; have hcz37_1 : w32.cell? ⟨gb223, 1, none⟩ = some (.int .i64 0) := (blk_cell BK223.out 1).trans rfl; have hcz37_2 : w32.cell? ⟨gb223, 2, none⟩ = some (.int .i64 0) := (blk_cell BK223.out 2).trans rfl; have hcz37_3 : w32.cell? ⟨gb223, 3, none⟩ = some (.int .i64 0) := (blk_cell BK223.out 3).trans rfl; have hcz37_4 : w32.cell? ⟨gb223, 4, none⟩ = some (.int .i64 0) := (blk_cell BK223.out 4).trans rfl; have hcz37_5 : w32.cell? ⟨gb223, 5, none⟩ = some (.slice none 0 0) := (blk_cell BK223.out 5).trans rfl; have hcz37_6 : w32.cell? ⟨gb223, 6, none⟩ = some (.slice none 0 0) := (blk_cell BK223.out 6).trans rfl; have hcz37_7 : w32.cell? ⟨gb223, 7, none⟩ = some (.slice none 0 0) := (blk_cell BK223.out 7).trans rfl; have hcz37_8 : w32.cell? ⟨gb223, 8, none⟩ = some (.bool false) := (blk_cell BK223.out 8).trans rfl; have hfz37_0 := blk_frozen BK223.out 0; have hfz37_1 := blk_frozen BK223.out 1; have hfz37_2 := blk_frozen BK223.out 2; have hfz37_3 := blk_frozen BK223.out 3; have hfz37_4 := blk_frozen BK223.out 4; have hfz37_5 := blk_frozen BK223.out 5; have hfz37_6 := blk_frozen BK223.out 6; have hfz37_7 := blk_frozen BK223.out 7; have hfz37_8 := blk_frozen BK223.out 8; obtain ⟨Ao38, co38, eo38⟩ := Kd.V_slice HO214.out; subst eo38; obtain ⟨Ao39, co39, eo39⟩ := Kd.V_slice HO217.out; subst eo39; obtain ⟨Ao40, co40, eo40⟩ := Kd.V_slice HO220.out; subst eo40) | ((with_reducible refine gate_callee (f := 14) rfl ?_); refine goesL_ (some 47) rfl rfl Tryd.func14 (by kernel_rfl) rfl #[.string a0_9] rfl (by (try simp only [List.map_toArray, List.map_cons, List.map_nil]); first | done | rfl | (simp only [List.length_drop, List.length_take]; rfl)) ?_; (with_reducible refine (tallystickref14_Take.calls a0_9 t224 t225 t226 t227 t228 t229 t232 t235 t238 t239 _ A6.out).mono ?_); rintro e w41 ⟨v230, v233, v236, rfl, ho0, ho1, ho2, hb⟩; clear A6; refine ⟨_, rfl, ?_⟩; have n0_ := zm (Kd.V_below (by (with_reducible repeat first | apply ze1 | apply ze2 | apply ze3); exact (vfar9 (g := gb223) HO214.out (fun k_ hk => hk.2) _ _ _ _ _ _ _ _ _)) hb); have n1_ := zm (Kd.V_below (by (with_reducible repeat first | apply ze1 | apply ze2 | apply ze3); exact (vfar9 (g := gb223) HO217.out (fun k_ hk => hk.2) _ _ _ _ _ _ _ _ _)) hb); have n2_ := zm (Kd.V_below (by (with_reducible repeat first | apply ze1 | apply ze2 | apply ze3); exact (vfar9 (g := gb223) HO220.out (fun k_ hk => hk.2) _ _ _ _ _ _ _ _ _)) hb); have n3_ := zm (Kd.V_lower (Kd.V_mono (ok' := fun k_ => k_ ≠ gb198 ∧ k_ ≠ gb199 ∧ k_ ≠ gb200 ∧ k_ ≠ gb201 ∧ k_ ≠ gb223) ho0 (fun k_ hk_ => ⟨(Kd.freshB (g := gb198) (o := .cells #[.int .i64 a0_0, .int .i64 a0_1, .int .i64 a0_2, .int .i64 a0_3, .int .i64 a0_4, .slice A0_5 l0_5.length c0_5, .slice A0_6 l0_6.length c0_6, .slice A0_7 l0_7.length c0_7, .bool a0_8, .string a0_9, .int .i64 a0_10, .int .i64 a0_11, .int .i64 a0_12, .int .i64 a0_13, .int .i64 a0_14, .int .i64 a0_15, .int .i64 a0_16, .int .i64 a0_17, .slice A0_18 l0_18.length c0_18, .slice A0_19 l0_19.length c0_19, .slice A0_20 l0_20.length c0_20, .bool a0_21] 46 (0, 0)) (by (with_reducible repeat first | refine zk1 ?_ _ | refine zk2 ?_ | refine zk3 ?_ _); (iterate 9 refine blk_far ?_ NB198_223.out _); (with_reducible repeat first | refine zk1 ?_ _ | refine zk2 ?_ | refine zk3 ?_ _); exact BK198.out) k_ hk_), (Kd.freshB (g := gb199) (o := .cells #[.int .i64 a0_0, .int .i64 a0_1, .int .i64 a0_2, .int .i64 a0_3, .int .i64 a0_4, .slice A0_5 l0_5.length c0_5, .slice A0_6 l0_6.length c0_6, .slice A0_7 l0_7.length c0_7, .bool a0_8] 34 (0, 0)) (by (with_reducible repeat first | refine zk1 ?_ _ | refine zk2 ?_ | refine zk3 ?_ _); (iterate 9 refine blk_far ?_ NB199_223.out _); (with_reducible repeat first | refine zk1 ?_ _ | refine zk2 ?_ | refine zk3 ?_ _); exact BK199.out) k_ hk_), (Kd.freshB (g := gb200) (o := .cells #[.int .i64 a0_10, .int .i64 a0_11, .int .i64 a0_12] 23 (0, 0)) (by (with_reducible repeat first | refine zk1 ?_ _ | refine zk2 ?_ | refine zk3 ?_ _); (iterate 9 refine blk_far ?_ NB200_223.out _); (with_reducible repeat first | refine zk1 ?_ _ | refine zk2 ?_ | refine zk3 ?_ _); exact BK200.out) k_ hk_), (Kd.freshB (g := gb201) (o := .cells #[.int .i64 a0_13, .int .i64 a0_14, .int .i64 a0_15, .int .i64 a0_16, .int .i64 a0_17, .slice A0_18 l0_18.length c0_18, .slice A0_19 l0_19.length c0_19, .slice A0_20 l0_20.length c0_20, .bool a0_21] 34 (0, 0)) (by (with_reducible repeat first | refine zk1 ?_ _ | refine zk2 ?_ | refine zk3 ?_ _); (iterate 9 refine blk_far ?_ NB201_223.out _); (with_reducible repeat first | refine zk1 ?_ _ | refine zk2 ?_ | refine zk3 ?_ _); exact BK201.out) k_ hk_), (Kd.freshB (g := gb223) (o := .cells #[.int .i64 t207, .int .i64 t208, .int .i64 t209, .int .i64 t210, .int .i64 t211, .slice Ao38 t212.length co38, .slice Ao39 t215.length co39, .slice Ao40 t218.length co40, .bool t221] 34 (0, 0)) (by (with_reducible repeat first | refine zk1 ?_ _ | refine zk2 ?_ | refine zk3 ?_ _); exact put9 (by (with_reducible repeat first | refine zk1 ?_ _ | refine zk2 ?_ | refine zk3 ?_ _); exact BK223.out) _ _ _ _ _ _ _ _ _) k_ hk_)⟩)) (below_size (by repeat (first | (with_reducible first | exact HB.out | apply zb1 | apply zb2 | apply zb3 | refine zb4 ?_ GE198.out | refine zb4 ?_ GE199.out | refine zb4 ?_ GE200.out | refine zb4 ?_ GE201.out | refine zb4 ?_ GE223.out) | exact HB.out)))); have n4_ := zm (Kd.V_lower (Kd.V_mono (ok' := fun k_ => k_ ≠ gb198 ∧ k_ ≠ gb199 ∧ k_ ≠ gb200 ∧ k_ ≠ gb201 ∧ k_ ≠ gb223) ho1 (fun k_ hk_ => ⟨(Kd.freshB (g := gb198) (o := .cells #[.int .i64 a0_0, .int .i64 a0_1, .int .i64 a0_2, .int .i64 a0_3, .int .i64 a0_4, .slice A0_5 l0_5.length c0_5, .slice A0_6 l0_6.length c0_6, .slice A0_7 l0_7.length c0_7, .bool a0_8, .string a0_9, .int .i64 a0_10, .int .i64 a0_11, .int .i64 a0_12, .int .i64 a0_13, .int .i64 a0_14, .int .i64 a0_15, .int .i64 a0_16, .int .i64 a0_17, .slice A0_18 l0_18.length c0_18, .slice A0_19 l0_19.length c0_19, .slice A0_20 l0_20.length c0_20, .bool a0_21] 46 (0, 0)) (by (with_reducible repeat first | refine zk1 ?_ _ | refine zk2 ?_ | refine zk3 ?_ _); (iterate 9 refine blk_far ?_ NB198_223.out _); (with_reducible repeat first | refine zk1 ?_ _ | refine zk2 ?_ | refine zk3 ?_ _); exact BK198.out) k_ hk_), (Kd.freshB (g := gb199) (o := .cells #[.int .i64 a0_0, .int .i64 a0_1, .int .i64 a0_2, .int .i64 a0_3, .int .i64 a0_4, .slice A0_5 l0_5.length c0_5, .slice A0_6 l0_6.length c0_6, .slice A0_7 l0_7.length c0_7, .bool a0_8] 34 (0, 0)) (by (with_reducible repeat first | refine zk1 ?_ _ | refine zk2 ?_ | refine zk3 ?_ _); (iterate 9 refine blk_far ?_ NB199_223.out _); (with_reducible repeat first | refine zk1 ?_ _ | refine zk2 ?_ | refine zk3 ?_ _); exact BK199.out) k_ hk_), (Kd.freshB (g := gb200) (o := .cells #[.int .i64 a0_10, .int .i64 a0_11, .int .i64 a0_12] 23 (0, 0)) (by (with_reducible repeat first | refine zk1 ?_ _ | refine zk2 ?_ | refine zk3 ?_ _); (iterate 9 refine blk_far ?_ NB200_223.out _); (with_reducible repeat first | refine zk1 ?_ _ | refine zk2 ?_ | refine zk3 ?_ _); exact BK200.out) k_ hk_), (Kd.freshB (g := gb201) (o := .cells #[.int .i64 a0_13, .int .i64 a0_14, .int .i64 a0_15, .int .i64 a0_16, .int .i64 a0_17, .slice A0_18 l0_18.length c0_18, .slice A0_19 l0_19.length c0_19, .slice A0_20 l0_20.length c0_20, .bool a0_21] 34 (0, 0)) (by (with_reducible repeat first | refine zk1 ?_ _ | refine zk2 ?_ | refine zk3 ?_ _); (iterate 9 refine blk_far ?_ NB201_223.out _); (with_reducible repeat first | refine zk1 ?_ _ | refine zk2 ?_ | refine zk3 ?_ _); exact BK201.out) k_ hk_), (Kd.freshB (g := gb223) (o := .cells #[.int .i64 t207, .int .i64 t208, .int .i64 t209, .int .i64 t210, .int .i64 t211, .slice Ao38 t212.length co38, .slice Ao39 t215.length co39, .slice Ao40 t218.length co40, .bool t221] 34 (0, 0)) (by (with_reducible repeat first | refine zk1 ?_ _ | refine zk2 ?_ | refine zk3 ?_ _); exact put9 (by (with_reducible repeat first | refine zk1 ?_ _ | refine zk2 ?_ | refine zk3 ?_ _); exact BK223.out) _ _ _ _ _ _ _ _ _) k_ hk_)⟩)) (below_size (by repeat (first | (with_reducible first | exact HB.out | apply zb1 | apply zb2 | apply zb3 | refine zb4 ?_ GE198.out | refine zb4 ?_ GE199.out | refine zb4 ?_ GE200.out | refine zb4 ?_ GE201.out | refine zb4 ?_ GE223.out) | exact HB.out)))); have n5_ := zm (Kd.V_lower (Kd.V_mono (ok' := fun k_ => k_ ≠ gb198 ∧ k_ ≠ gb199 ∧ k_ ≠ gb200 ∧ k_ ≠ gb201 ∧ k_ ≠ gb223) ho2 (fun k_ hk_ => ⟨(Kd.freshB (g := gb198) (o := .cells #[.int .i64 a0_0, .int .i64 a0_1, .int .i64 a0_2, .int .i64 a0_3, .int .i64 a0_4, .slice A0_5 l0_5.length c0_5, .slice A0_6 l0_6.length c0_6, .slice A0_7 l0_7.length c0_7, .bool a0_8, .string a0_9, .int .i64 a0_10, .int .i64 a0_11, .int .i64 a0_12, .int .i64 a0_13, .int .i64 a0_14, .int .i64 a0_15, .int .i64 a0_16, .int .i64 a0_17, .slice A0_18 l0_18.length c0_18, .slice A0_19 l0_19.length c0_19, .slice A0_20 l0_20.length c0_20, .bool a0_21] 46 (0, 0)) (by (with_reducible repeat first | refine zk1 ?_ _ | refine zk2 ?_ | refine zk3 ?_ _); (iterate 9 refine blk_far ?_ NB198_223.out _); (with_reducible repeat first | refine zk1 ?_ _ | refine zk2 ?_ | refine zk3 ?_ _); exact BK198.out) k_ hk_), (Kd.freshB (g := gb199) (o := .cells #[.int .i64 a0_0, .int .i64 a0_1, .int .i64 a0_2, .int .i64 a0_3, .int .i64 a0_4, .slice A0_5 l0_5.length c0_5, .slice A0_6 l0_6.length c0_6, .slice A0_7 l0_7.length c0_7, .bool a0_8] 34 (0, 0)) (by (with_reducible repeat first | refine zk1 ?_ _ | refine zk2 ?_ | refine zk3 ?_ _); (iterate 9 refine blk_far ?_ NB199_223.out _); (with_reducible repeat first | refine zk1 ?_ _ | refine zk2 ?_ | refine zk3 ?_ _); exact BK199.out) k_ hk_), (Kd.freshB (g := gb200) (o := .cells #[.int .i64 a0_10, .int .i64 a0_11, .int .i64 a0_12] 23 (0, 0)) (by (with_reducible repeat first | refine zk1 ?_ _ | refine zk2 ?_ | refine zk3 ?_ _); (iterate 9 refine blk_far ?_ NB200_223.out _); (with_reducible repeat first | refine zk1 ?_ _ | refine zk2 ?_ | refine zk3 ?_ _); exact BK200.out) k_ hk_), (Kd.freshB (g := gb201) (o := .cells #[.int .i64 a0_13, .int .i64 a0_14, .int .i64 a0_15, .int .i64 a0_16, .int .i64 a0_17, .slice A0_18 l0_18.length c0_18, .slice A0_19 l0_19.length c0_19, .slice A0_20 l0_20.length c0_20, .bool a0_21] 34 (0, 0)) (by (with_reducible repeat first | refine zk1 ?_ _ | refine zk2 ?_ | refine zk3 ?_ _); (iterate 9 refine blk_far ?_ NB201_223.out _); (with_reducible repeat first | refine zk1 ?_ _ | refine zk2 ?_ | refine zk3 ?_ _); exact BK201.out) k_ hk_), (Kd.freshB (g := gb223) (o := .cells #[.int .i64 t207, .int .i64 t208, .int .i64 t209, .int .i64 t210, .int .i64 t211, .slice Ao38 t212.length co38, .slice Ao39 t215.length co39, .slice Ao40 t218.length co40, .bool t221] 34 (0, 0)) (by (with_reducible repeat first | refine zk1 ?_ _ | refine zk2 ?_ | refine zk3 ?_ _); exact put9 (by (with_reducible repeat first | refine zk1 ?_ _ | refine zk2 ?_ | refine zk3 ?_ _); exact BK223.out) _ _ _ _ _ _ _ _ _) k_ hk_)⟩)) (below_size (by repeat (first | (with_reducible first | exact HB.out | apply zb1 | apply zb2 | apply zb3 | refine zb4 ?_ GE198.out | refine zb4 ?_ GE199.out | refine zb4 ?_ GE200.out | refine zb4 ?_ GE201.out | refine zb4 ?_ GE223.out) | exact HB.out)))); have n6_ := zm (blk_below (g := gb198) (o := .cells #[.int .i64 a0_0, .int .i64 a0_1, .int .i64 a0_2, .int .i64 a0_3, .int .i64 a0_4, .slice A0_5 l0_5.length c0_5, .slice A0_6 l0_6.length c0_6, .slice A0_7 l0_7.length c0_7, .bool a0_8, .string a0_9, .int .i64 a0_10, .int .i64 a0_11, .int .i64 a0_12, .int .i64 a0_13, .int .i64 a0_14, .int .i64 a0_15, .int .i64 a0_16, .int .i64 a0_17, .slice A0_18 l0_18.length c0_18, .slice A0_19 l0_19.length c0_19, .slice A0_20 l0_20.length c0_20, .bool a0_21] 46 (0, 0)) (by (with_reducible repeat first | refine zk1 ?_ _ | refine zk2 ?_ | refine zk3 ?_ _); (iterate 9 refine blk_far ?_ NB198_223.out _); (with_reducible repeat first | refine zk1 ?_ _ | refine zk2 ?_ | refine zk3 ?_ _); exact BK198.out) hb); have n7_ := zm (blk_below (g := gb199) (o := .cells #[.int .i64 a0_0, .int .i64 a0_1, .int .i64 a0_2, .int .i64 a0_3, .int .i64 a0_4, .slice A0_5 l0_5.length c0_5, .slice A0_6 l0_6.length c0_6, .slice A0_7 l0_7.length c0_7, .bool a0_8] 34 (0, 0)) (by (with_reducible repeat first | refine zk1 ?_ _ | refine zk2 ?_ | refine zk3 ?_ _); (iterate 9 refine blk_far ?_ NB199_223.out _); (with_reducible repeat first | refine zk1 ?_ _ | refine zk2 ?_ | refine zk3 ?_ _); exact BK199.out) hb); have n8_ := zm (blk_below (g := gb200) (o := .cells #[.int .i64 a0_10, .int .i64 a0_11, .int .i64 a0_12] 23 (0, 0)) (by (with_reducible repeat first | refine zk1 ?_ _ | refine zk2 ?_ | refine zk3 ?_ _); (iterate 9 refine blk_far ?_ NB200_223.out _); (with_reducible repeat first | refine zk1 ?_ _ | refine zk2 ?_ | refine zk3 ?_ _); exact BK200.out) hb); have n9_ := zm (blk_below (g := gb201) (o := .cells #[.int .i64 a0_13, .int .i64 a0_14, .int .i64 a0_15, .int .i64 a0_16, .int .i64 a0_17, .slice A0_18 l0_18.length c0_18, .slice A0_19 l0_19.length c0_19, .slice A0_20 l0_20.length c0_20, .bool a0_21] 34 (0, 0)) (by (with_reducible repeat first | refine zk1 ?_ _ | refine zk2 ?_ | refine zk3 ?_ _); (iterate 9 refine blk_far ?_ NB201_223.out _); (with_reducible repeat first | refine zk1 ?_ _ | refine zk2 ?_ | refine zk3 ?_ _); exact BK201.out) hb); have n10_ := zm (blk_below (g := gb223) (o := .cells #[.int .i64 t207, .int .i64 t208, .int .i64 t209, .int .i64 t210, .int .i64 t211, .slice Ao38 t212.length co38, .slice Ao39 t215.length co39, .slice Ao40 t218.length co40, .bool t221] 34 (0, 0)) (by (with_reducible repeat first | refine zk1 ?_ _ | refine zk2 ?_ | refine zk3 ?_ _); exact put9 (by (with_reducible repeat first | refine zk1 ?_ _ | refine zk2 ?_ | refine zk3 ?_ _); exact BK223.out) _ _ _ _ _ _ _ _ _) hb); have n11_ := zm (below_step (by repeat (first | (with_reducible first | exact HB.out | apply zb1 | apply zb2 | apply zb3 | refine zb4 ?_ GE198.out | refine zb4 ?_ GE199.out | refine zb4 ?_ GE200.out | refine zb4 ?_ GE201.out | refine zb4 ?_ GE223.out) | exact HB.out)) hb); clear HO214 HO217 HO220 BK198 BK199 BK200 BK201 BK223 HB; have HO214 := n0_; have HO217 := n1_; have HO220 := n2_; have HO231 := n3_; have HO234 := n4_; have HO237 := n5_; have BK198 := n6_; have BK199 := n7_; have BK200 := n8_; have BK201 := n9_; have BK223 := n10_; have HB := n11_; clear n0_ n1_ n2_ n3_ n4_ n5_ n6_ n7_ n8_ n9_ n10_ n11_; (try clear hb); (try clear hb2); (try clear hk); (try clear hi); (try clear ho0); (try clear ho1); (try clear ho2)) | ((with_reducible refine gate_dst (N := 14) rfl ?_); refine box_event ?hg (N := 14) ?hd (cs := #[.int .i64 0, .int .i64 0, .int .i64 0, .int .i64 0, .int .i64 0, .slice none 0 0, .slice none 0 0, .slice none 0 0, .bool false]) (t := 34) ?hr ?_; (case hd => rfl); (case hg => rfl); (case hr => first | (go_simp; done) | (go_simp; rfl)); intro gb240 hg w42 hbox hb; have n0_ := zm (Kd.V_below (Kd.V_elderB (by (with_reducible repeat first | apply ze1 | apply ze2 | apply ze3); exact HO214.out) gb240 (Nat.le_of_eq hg.symm)) hb); have n1_ := zm (Kd.V_below (Kd.V_elderB (by (with_reducible repeat first | apply ze1 | apply ze2 | apply ze3); exact HO217.out) gb240 (Nat.le_of_eq hg.symm)) hb); have n2_ := zm (Kd.V_below (Kd.V_elderB (by (with_reducible repeat first | apply ze1 | apply ze2 | apply ze3); exact HO220.out) gb240 (Nat.le_of_eq hg.symm)) hb); have n3_ := zm (Kd.V_below (Kd.V_elderB (by (with_reducible repeat first | apply ze1 | apply ze2 | apply ze3); exact HO231.out) gb240 (Nat.le_of_eq hg.symm)) hb); have n4_ := zm (Kd.V_below (Kd.V_elderB (by (with_reducible repeat first | apply ze1 | apply ze2 | apply ze3); exact HO234.out) gb240 (Nat.le_of_eq hg.symm)) hb); have n5_ := zm (Kd.V_below (Kd.V_elderB (by (with_reducible repeat first | apply ze1 | apply ze2 | apply ze3); exact HO237.out) gb240 (Nat.le_of_eq hg.symm)) hb); have n6_ := zm (blk_below (g := gb198) (o := .cells #[.int .i64 a0_0, .int .i64 a0_1, .int .i64 a0_2, .int .i64 a0_3, .int .i64 a0_4, .slice A0_5 l0_5.length c0_5, .slice A0_6 l0_6.length c0_6, .slice A0_7 l0_7.length c0_7, .bool a0_8, .string a0_9, .int .i64 a0_10, .int .i64 a0_11, .int .i64 a0_12, .int .i64 a0_13, .int .i64 a0_14, .int .i64 a0_15, .int .i64 a0_16, .int .i64 a0_17, .slice A0_18 l0_18.length c0_18, .slice A0_19 l0_19.length c0_19, .slice A0_20 l0_20.length c0_20, .bool a0_21] 46 (0, 0)) (by (with_reducible repeat first | refine zk1 ?_ _ | refine zk2 ?_ | refine zk3 ?_ _); exact BK198.out) hb); have n7_ := zm (blk_below (g := gb199) (o := .cells #[.int .i64 a0_0, .int .i64 a0_1, .int .i64 a0_2, .int .i64 a0_3, .int .i64 a0_4, .slice A0_5 l0_5.length c0_5, .slice A0_6 l0_6.length c0_6, .slice A0_7 l0_7.length c0_7, .bool a0_8] 34 (0, 0)) (by (with_reducible repeat first | refine zk1 ?_ _ | refine zk2 ?_ | refine zk3 ?_ _); exact BK199.out) hb); have n8_ := zm (blk_below (g := gb200) (o := .cells #[.int .i64 a0_10, .int .i64 a0_11, .int .i64 a0_12] 23 (0, 0)) (by (with_reducible repeat first | refine zk1 ?_ _ | refine zk2 ?_ | refine zk3 ?_ _); exact BK200.out) hb); have n9_ := zm (blk_below (g := gb201) (o := .cells #[.int .i64 a0_13, .int .i64 a0_14, .int .i64 a0_15, .int .i64 a0_16, .int .i64 a0_17, .slice A0_18 l0_18.length c0_18, .slice A0_19 l0_19.length c0_19, .slice A0_20 l0_20.length c0_20, .bool a0_21] 34 (0, 0)) (by (with_reducible repeat first | refine zk1 ?_ _ | refine zk2 ?_ | refine zk3 ?_ _); exact BK201.out) hb); have n10_ := zm (blk_below (g := gb223) (o := .cells #[.int .i64 t207, .int .i64 t208, .int .i64 t209, .int .i64 t210, .int .i64 t211, .slice Ao38 t212.length co38, .slice Ao39 t215.length co39, .slice Ao40 t218.length co40, .bool t221] 34 (0, 0)) (by (with_reducible repeat first | refine zk1 ?_ _ | refine zk2 ?_ | refine zk3 ?_ _); exact BK223.out) hb); have n11_ := zm (below_step (by repeat (first | (with_reducible first | exact HB.out | apply zb1 | apply zb2 | apply zb3 | refine zb4 ?_ GE198.out | refine zb4 ?_ GE199.out | refine zb4 ?_ GE200.out | refine zb4 ?_ GE201.out | refine zb4 ?_ GE223.out) | exact HB.out)) hb); have n12_ := zm (hbox); have n13_ := zm ((by rw [hg]; exact (below_size (by repeat (first | (with_reducible first | exact HB.out | apply zb1 | apply zb2 | apply zb3 | refine zb4 ?_ GE198.out | refine zb4 ?_ GE199.out | refine zb4 ?_ GE200.out | refine zb4 ?_ GE201.out | refine zb4 ?_ GE223.out) | exact HB.out))) : w.heap.size ≤ gb240)); have n14_ := zm ((by rw [hg]; exact (below_size (by repeat (first | (with_reducible first | exact HB.out | apply zb1 | apply zb2 | apply zb3 | refine zb4 ?_ GE198.out | refine zb4 ?_ GE199.out | refine zb4 ?_ GE200.out | refine zb4 ?_ GE201.out | refine zb4 ?_ GE223.out) | exact HB.out))) : w.heap.size ≤ gb240)); have n15_ := zm ((by rw [hg]; exact Nat.ne_of_lt (blk_lt (g := gb198) (by (with_reducible repeat first | refine zk1 ?_ _ | refine zk2 ?_ | refine zk3 ?_ _); exact BK198.out)) : gb198 ≠ gb240)); have n16_ := zm ((by rw [hg]; exact Nat.ne_of_gt (blk_lt (g := gb198) (by (with_reducible repeat first | refine zk1 ?_ _ | refine zk2 ?_ | refine zk3 ?_ _); exact BK198.out)) : gb240 ≠ gb198)); have n17_ := zm ((by rw [hg]; exact Nat.ne_of_lt (blk_lt (g := gb199) (by (with_reducible repeat first | refine zk1 ?_ _ | refine zk2 ?_ | refine zk3 ?_ _); exact BK199.out)) : gb199 ≠ gb240)); have n18_ := zm ((by rw [hg]; exact Nat.ne_of_gt (blk_lt (g := gb199) (by (with_reducible repeat first | refine zk1 ?_ _ | refine zk2 ?_ | refine zk3 ?_ _); exact BK199.out)) : gb240 ≠ gb199)); have n19_ := zm ((by rw [hg]; exact Nat.ne_of_lt (blk_lt (g := gb200) (by (with_reducible repeat first | refine zk1 ?_ _ | refine zk2 ?_ | refine zk3 ?_ _); exact BK200.out)) : gb200 ≠ gb240)); have n20_ := zm ((by rw [hg]; exact Nat.ne_of_gt (blk_lt (g := gb200) (by (with_reducible repeat first | refine zk1 ?_ _ | refine zk2 ?_ | refine zk3 ?_ _); exact BK200.out)) : gb240 ≠ gb200)); have n21_ := zm ((by rw [hg]; exact Nat.ne_of_lt (blk_lt (g := gb201) (by (with_reducible repeat first | refine zk1 ?_ _ | refine zk2 ?_ | refine zk3 ?_ _); exact BK201.out)) : gb201 ≠ gb240)); have n22_ := zm ((by rw [hg]; exact Nat.ne_of_gt (blk_lt (g := gb201) (by (with_reducible repeat first | refine zk1 ?_ _ | refine zk2 ?_ | refine zk3 ?_ _); exact BK201.out)) : gb240 ≠ gb201)); have n23_ := zm ((by rw [hg]; exact Nat.ne_of_lt (blk_lt (g := gb223) (by (with_reducible repeat first | refine zk1 ?_ _ | refine zk2 ?_ | refine zk3 ?_ _); exact BK223.out)) : gb223 ≠ gb240)); have n24_ := zm ((by rw [hg]; exact Nat.ne_of_gt (blk_lt (g := gb223) (by (with_reducible repeat first | refine zk1 ?_ _ | refine zk2 ?_ | refine zk3 ?_ _); exact BK223.out)) : gb240 ≠ gb223)); clear HO214 HO217 HO220 HO231 HO234 HO237 BK198 BK199 BK200 BK201 BK223 HB; have HO214 := n0_; have HO217 := n1_; have HO220 := n2_; have HO231 := n3_; have HO234 := n4_; have HO237 := n5_; have BK198 := n6_; have BK199 := n7_; have BK200 := n8_; have BK201 := n9_; have BK223 := n10_; have HB := n11_; have BK240 := n12_; have GW240 := n13_; have GE240 := n14_; have NB198_240 := n15_; have NB240_198 := n16_; have NB199_240 := n17_; have NB240_199 := n18_; have NB200_240 := n19_; have NB240_200 := n20_; have NB201_240 := n21_; have NB240_201 := n22_; have NB223_240 := n23_; have NB240_223 := n24_; clear n0_ n1_ n2_ n3_ n4_ n5_ n6_ n7_ n8_ n9_ n10_ n11_ n12_ n13_ n14_ n15_ n16_ n17_ n18_ n19_ n20_ n21_ n22_ n23_ n24_; clear hb hbox hg; have hnb43 := NB240_198.out; have hnc43 := NB198_240.out; have hnb44 := NB240_199.out; have hnc44 := NB199_240.out; have hnb45 := NB240_200.out; have hnc45 := NB200_240.out; have hnb46 := NB240_201.out; have hnc46 := NB201_240.out; have hnb47 := NB240_223.out; have hnc47 := NB223_240.out; have hcz48_0 : w42.cell? ⟨gb240, 0, none⟩ = some (.int .i64 0) := (blk_cell BK240.out 0).trans rfl; have hcz48_1 : w42.cell? ⟨gb240, 1, none⟩ = some (.int .i64 0) := (blk_cell BK240.out 1).trans rfl; have hcz48_2 : w42.cell? ⟨gb240, 2, none⟩ = some (.int .i64 0) := (blk_cell BK240.out 2).trans rfl; have hcz48_3 : w42.cell? ⟨gb240, 3, none⟩ = some (.int .i64 0) := (blk_cell BK240.out 3).trans rfl; have hcz48_4 : w42.cell? ⟨gb240, 4, none⟩ = some (.int .i64 0) := (blk_cell BK240.out 4).trans rfl; have hcz48_5 : w42.cell? ⟨gb240, 5, none⟩ = some (.slice none 0 0) := (blk_cell BK240.out 5).trans rfl; have hcz48_6 : w42.cell? ⟨gb240, 6, none⟩ = some (.slice none 0 0) := (blk_cell BK240.out 6).trans rfl; have hcz48_7 : w42.cell? ⟨gb240, 7, none⟩ = some (.slice none 0 0) := (blk_cell BK240.out 7).trans rfl; have hcz48_8 : w42.cell? ⟨gb240, 8, none⟩ = some (.bool false) := (blk_cell BK240.out 8).trans rfl; have hfz48_0 := blk_frozen BK240.out 0; have hfz48_1 := blk_frozen BK240.out 1; have hfz48_2 := blk_frozen BK240.out 2; have hfz48_3 := blk_frozen BK240.out 3; have hfz48_4 := blk_frozen BK240.out 4; have hfz48_5 := blk_frozen BK240.out 5; have hfz48_6 := blk_frozen BK240.out 6; have hfz48_7 := blk_frozen BK240.out 7; have hfz48_8 := blk_frozen BK240.out 8; obtain ⟨Ao49, co49, eo49⟩ := Kd.V_slice HO231.out; subst eo49; obtain ⟨Ao50, co50, eo50⟩ := Kd.V_slice HO234.out; subst eo50; obtain ⟨Ao51, co51, eo51⟩ := Kd.V_slice HO237.out; subst eo51; have hcz52_0 : w42.cell? ⟨gb200, 0, none⟩ = some (.int .i64 a0_10) := (blk_cell BK200.out 0).trans rfl; have hcz52_1 : w42.cell? ⟨gb200, 1, none⟩ = some (.int .i64 a0_11) := (blk_cell BK200.out 1).trans rfl; have hcz52_2 : w42.cell? ⟨gb200, 2, none⟩ = some (.int .i64 a0_12) := (blk_cell BK200.out 2).trans rfl; have hfz52_0 := blk_frozen BK200.out 0; have hfz52_1 := blk_frozen BK200.out 1; have hfz52_2 := blk_frozen BK200.out 2) | ((with_reducible refine gate_callee (f := 9) rfl ?_); refine goesL_ (some 53) rfl rfl Tryd.func9 (by kernel_rfl) rfl #[.string a0_9, .agg #[.int .i64 a0_10, .int .i64 a0_11, .int .i64 a0_12]] rfl (by (try simp only [List.map_toArray, List.map_cons, List.map_nil]); first | done | rfl | (simp only [List.length_drop, List.length_take]; rfl)) ?_; (with_reducible refine (crc_Of.calls a0_9 a0_10 a0_11 a0_12 t241 t242 t243 t246 t249 t252 t253 _ A7.out (HPR.out.later (by repeat (first | (with_reducible first | exact HB.out | apply zb1 | apply zb2 | apply zb3 | refine zb4 ?_ GE198.out | refine zb4 ?_ GE199.out | refine zb4 ?_ GE200.out | refine zb4 ?_ GE201.out | refine zb4 ?_ GE223.out | refine zb4 ?_ GE240.out) | exact HB.out)))).mono ?_); rintro e w53 ⟨v244, v247, v250, rfl, ho0, ho1, ho2, hb⟩; refine ⟨_, rfl, ?_⟩; have n0_ := zm (Kd.V_below (by (with_reducible repeat first | apply ze1 | apply ze2 | apply ze3); exact (vfar9 (g := gb240) HO214.out (fun k_ hk => hk.2) _ _ _ _ _ _ _ _ _)) hb); have n1_ := zm (Kd.V_below (by (with_reducible repeat first | apply ze1 | apply ze2 | apply ze3); exact (vfar9 (g := gb240) HO217.out (fun k_ hk => hk.2) _ _ _ _ _ _ _ _ _)) hb); have n2_ := zm (Kd.V_below (by (with_reducible repeat first | apply ze1 | apply ze2 | apply ze3); exact (vfar9 (g := gb240) HO220.out (fun k_ hk => hk.2) _ _ _ _ _ _ _ _ _)) hb); have n3_ := zm (Kd.V_below (by (with_reducible repeat first | apply ze1 | apply ze2 | apply ze3); exact (vfar9 (g := gb240) HO231.out (fun k_ hk => hk.2) _ _ _ _ _ _ _ _ _)) hb); have n4_ := zm (Kd.V_below (by (with_reducible repeat first | apply ze1 | apply ze2 | apply ze3); exact (vfar9 (g := gb240) HO234.out (fun k_ hk => hk.2) _ _ _ _ _ _ _ _ _)) hb); have n5_ := zm (Kd.V_below (by (with_reducible repeat first | apply ze1 | apply ze2 | apply ze3); exact (vfar9 (g := gb240) HO237.out (fun k_ hk => hk.2) _ _ _ _ _ _ _ _ _)) hb); have n6_ := zm (Kd.V_lower (Kd.V_mono (ok' := fun k_ => k_ ≠ gb198 ∧ k_ ≠ gb199 ∧ k_ ≠ gb200 ∧ k_ ≠ gb201 ∧ k_ ≠ gb223 ∧ k_ ≠ gb240) ho0 (fun k_ hk_ => ⟨(Kd.freshB (g := gb198) (o := .cells #[.int .i64 a0_0, .int .i64 a0_1, .int .i64 a0_2, .int .i64 a0_3, .int .i64 a0_4, .slice A0_5 l0_5.length c0_5, .slice A0_6 l0_6.length c0_6, .slice A0_7 l0_7.length c0_7, .bool a0_8, .string a0_9, .int .i64 a0_10, .int .i64 a0_11, .int .i64 a0_12, .int .i64 a0_13, .int .i64 a0_14, .int .i64 a0_15, .int .i64 a0_16, .int .i64 a0_17, .slice A0_18 l0_18.length c0_18, .slice A0_19 l0_19.length c0_19, .slice A0_20 l0_20.length c0_20, .bool a0_21] 46 (0, 0)) (by (with_reducible repeat first | refine zk1 ?_ _ | refine zk2 ?_ | refine zk3 ?_ _); (iterate 9 refine blk_far ?_ NB198_240.out _); (with_reducible repeat first | refine zk1 ?_ _ | refine zk2 ?_ | refine zk3 ?_ _); exact BK198.out) k_ hk_), (Kd.freshB (g := gb199) (o := .cells #[.int .i64 a0_0, .int .i64 a0_1, .int .i64 a0_2, .int .i64 a0_3, .int .i64 a0_4, .slice A0_5 l0_5.length c0_5, .slice A0_6 l0_6.length c0_6, .slice A0_7 l0_7.length c0_7, .bool a0_8] 34 (0, 0)) (by (with_reducible repeat first | refine zk1 ?_ _ | refine zk2 ?_ | refine zk3 ?_ _); (iterate 9 refine blk_far ?_ NB199_240.out _); (with_reducible repeat first | refine zk1 ?_ _ | refine zk2 ?_ | refine zk3 ?_ _); exact BK199.out) k_ hk_), (Kd.freshB (g := gb200) (o := .cells #[.int .i64 a0_10, .int .i64 a0_11, .int .i64 a0_12] 23 (0, 0)) (by (with_reducible repeat first | refine zk1 ?_ _ | refine zk2 ?_ | refine zk3 ?_ _); (iterate 9 refine blk_far ?_ NB200_240.out _); (with_reducible repeat first | refine zk1 ?_ _ | refine zk2 ?_ | refine zk3 ?_ _); exact BK200.out) k_ hk_), (Kd.freshB (g := gb201) (o := .cells #[.int .i64 a0_13, .int .i64 a0_14, .int .i64 a0_15, .int .i64 a0_16, .int .i64 a0_17, .slice A0_18 l0_18.length c0_18, .slice A0_19 l0_19.length c0_19, .slice A0_20 l0_20.length c0_20, .bool a0_21] 34 (0, 0)) (by (with_reducible repeat first | refine zk1 ?_ _ | refine zk2 ?_ | refine zk3 ?_ _); (iterate 9 refine blk_far ?_ NB201_240.out _); (with_reducible repeat first | refine zk1 ?_ _ | refine zk2 ?_ | refine zk3 ?_ _); exact BK201.out) k_ hk_), (Kd.freshB (g := gb223) (o := .cells #[.int .i64 t207, .int .i64 t208, .int .i64 t209, .int .i64 t210, .int .i64 t211, .slice Ao38 t212.length co38, .slice Ao39 t215.length co39, .slice Ao40 t218.length co40, .bool t221] 34 (0, 0)) (by (with_reducible repeat first | refine zk1 ?_ _ | refine zk2 ?_ | refine zk3 ?_ _); (iterate 9 refine blk_far ?_ NB223_240.out _); (with_reducible repeat first | refine zk1 ?_ _ | refine zk2 ?_ | refine zk3 ?_ _); exact BK223.out) k_ hk_), (Kd.freshB (g := gb240) (o := .cells #[.int .i64 t224, .int .i64 t225, .int .i64 t226, .int .i64 t227, .int .i64 t228, .slice Ao49 t229.length co49, .slice Ao50 t232.length co50, .slice Ao51 t235.length co51, .bool t238] 34 (0, 0)) (by (with_reducible repeat first | refine zk1 ?_ _ | refine zk2 ?_ | refine zk3 ?_ _); exact put9 (by (with_reducible repeat first | refine zk1 ?_ _ | refine zk2 ?_ | refine zk3 ?_ _); exact BK240.out) _ _ _ _ _ _ _ _ _) k_ hk_)⟩)) (below_size (by repeat (first | (with_reducible first | exact HB.out | apply zb1 | apply zb2 | apply zb3 | refine zb4 ?_ GE198.out | refine zb4 ?_ GE199.out | refine zb4 ?_ GE200.out | refine zb4 ?_ GE201.out | refine zb4 ?_ GE223.out | refine zb4 ?_ GE240.out) | exact HB.out)))); have n7_ := zm (Kd.V_lower (Kd.V_mono (ok' := fun k_ => k_ ≠ gb198 ∧ k_ ≠ gb199 ∧ k_ ≠ gb200 ∧ k_ ≠ gb201 ∧ k_ ≠ gb223 ∧ k_ ≠ gb240) ho1 (fun k_ hk_ => ⟨(Kd.freshB (g := gb198) (o := .cells #[.int .i64 a0_0, .int .i64 a0_1, .int .i64 a0_2, .int .i64 a0_3, .int .i64 a0_4, .slice A0_5 l0_5.length c0_5, .slice A0_6 l0_6.length c0_6, .slice A0_7 l0_7.length c0_7, .bool a0_8, .string a0_9, .int .i64 a0_10, .int .i64 a0_11, .int .i64 a0_12, .int .i64 a0_13, .int .i64 a0_14, .int .i64 a0_15, .int .i64 a0_16, .int .i64 a0_17, .slice A0_18 l0_18.length c0_18, .slice A0_19 l0_19.length c0_19, .slice A0_20 l0_20.length c0_20, .bool a0_21] 46 (0, 0)) (by (with_reducible repeat first | refine zk1 ?_ _ | refine zk2 ?_ | refine zk3 ?_ _); (iterate 9 refine blk_far ?_ NB198_240.out _); (with_reducible repeat first | refine zk1 ?_ _ | refine zk2 ?_ | refine zk3 ?_ _); exact BK198.out) k_ hk_), (Kd.freshB (g := gb199) (o := .cells #[.int .i64 a0_0, .int .i64 a0_1, .int .i64 a0_2, .int .i64 a0_3, .int .i64 a0_4, .slice A0_5 l0_5.length c0_5, .slice A0_6 l0_6.length c0_6, .slice A0_7 l0_7.length c0_7, .bool a0_8] 34 (0, 0)) (by (with_reducible repeat first | refine zk1 ?_ _ | refine zk2 ?_ | refine zk3 ?_ _); (iterate 9 refine blk_far ?_ NB199_240.out _); (with_reducible repeat first | refine zk1 ?_ _ | refine zk2 ?_ | refine zk3 ?_ _); exact BK199.out) k_ hk_), (Kd.freshB (g := gb200) (o := .cells #[.int .i64 a0_10, .int .i64 a0_11, .int .i64 a0_12] 23 (0, 0)) (by (with_reducible repeat first | refine zk1 ?_ _ | refine zk2 ?_ | refine zk3 ?_ _); (iterate 9 refine blk_far ?_ NB200_240.out _); (with_reducible repeat first | refine zk1 ?_ _ | refine zk2 ?_ | refine zk3 ?_ _); exact BK200.out) k_ hk_), (Kd.freshB (g := gb201) (o := .cells #[.int .i64 a0_13, .int .i64 a0_14, .int .i64 a0_15, .int .i64 a0_16, .int .i64 a0_17, .slice A0_18 l0_18.length c0_18, .slice A0_19 l0_19.length c0_19, .slice A0_20 l0_20.length c0_20, .bool a0_21] 34 (0, 0)) (by (with_reducible repeat first | refine zk1 ?_ _ | refine zk2 ?_ | refine zk3 ?_ _); (iterate 9 refine blk_far ?_ NB201_240.out _); (with_reducible repeat first | refine zk1 ?_ _ | refine zk2 ?_ | refine zk3 ?_ _); exact BK201.out) k_ hk_), (Kd.freshB (g := gb223) (o := .cells #[.int .i64 t207, .int .i64 t208, .int .i64 t209, .int .i64 t210, .int .i64 t211, .slice Ao38 t212.length co38, .slice Ao39 t215.length co39, .slice Ao40 t218.length co40, .bool t221] 34 (0, 0)) (by (with_reducible repeat first | refine zk1 ?_ _ | refine zk2 ?_ | refine zk3 ?_ _); (iterate 9 refine blk_far ?_ NB223_240.out _); (with_reducible repeat first | refine zk1 ?_ _ | refine zk2 ?_ | refine zk3 ?_ _); exact BK223.out) k_ hk_), (Kd.freshB (g := gb240) (o := .cells #[.int .i64 t224, .int .i64 t225, .int .i64 t226, .int .i64 t227, .int .i64 t228, .slice Ao49 t229.length co49, .slice Ao50 t232.length co50, .slice Ao51 t235.length co51, .bool t238] 34 (0, 0)) (by (with_reducible repeat first | refine zk1 ?_ _ | refine zk2 ?_ | refine zk3 ?_ _); exact put9 (by (with_reducible repeat first | refine zk1 ?_ _ | refine zk2 ?_ | refine zk3 ?_ _); exact BK240.out) _ _ _ _ _ _ _ _ _) k_ hk_)⟩)) (below_size (by repeat (first | (with_reducible first | exact HB.out | apply zb1 | apply zb2 | apply zb3 | refine zb4 ?_ GE198.out | refine zb4 ?_ GE199.out | refine zb4 ?_ GE200.out | refine zb4 ?_ GE201.out | refine zb4 ?_ GE223.out | refine zb4 ?_ GE240.out) | exact HB.out)))); have n8_ := zm (Kd.V_lower (Kd.V_mono (ok' := fun k_ => k_ ≠ gb198 ∧ k_ ≠ gb199 ∧ k_ ≠ gb200 ∧ k_ ≠ gb201 ∧ k_ ≠ gb223 ∧ k_ ≠ gb240) ho2 (fun k_ hk_ => ⟨(Kd.freshB (g := gb198) (o := .cells #[.int .i64 a0_0, .int .i64 a0_1, .int .i64 a0_2, .int .i64 a0_3, .int .i64 a0_4, .slice A0_5 l0_5.length c0_5, .slice A0_6 l0_6.length c0_6, .slice A0_7 l0_7.length c0_7, .bool a0_8, .string a0_9, .int .i64 a0_10, .int .i64 a0_11, .int .i64 a0_12, .int .i64 a0_13, .int .i64 a0_14, .int .i64 a0_15, .int .i64 a0_16, .int .i64 a0_17, .slice A0_18 l0_18.length c0_18, .slice A0_19 l0_19.length c0_19, .slice A0_20 l0_20.length c0_20, .bool a0_21] 46 (0, 0)) (by (with_reducible repeat first | refine zk1 ?_ _ | refine zk2 ?_ | refine zk3 ?_ _); (iterate 9 refine blk_far ?_ NB198_240.out _); (with_reducible repeat first | refine zk1 ?_ _ | refine zk2 ?_ | refine zk3 ?_ _); exact BK198.out) k_ hk_), (Kd.freshB (g := gb199) (o := .cells #[.int .i64 a0_0, .int .i64 a0_1, .int .i64 a0_2, .int .i64 a0_3, .int .i64 a0_4, .slice A0_5 l0_5.length c0_5, .slice A0_6 l0_6.length c0_6, .slice A0_7 l0_7.length c0_7, .bool a0_8] 34 (0, 0)) (by (with_reducible repeat first | refine zk1 ?_ _ | refine zk2 ?_ | refine zk3 ?_ _); (iterate 9 refine blk_far ?_ NB199_240.out _); (with_reducible repeat first | refine zk1 ?_ _ | refine zk2 ?_ | refine zk3 ?_ _); exact BK199.out) k_ hk_), (Kd.freshB (g := gb200) (o := .cells #[.int .i64 a0_10, .int .i64 a0_11, .int .i64 a0_12] 23 (0, 0)) (by (with_reducible repeat first | refine zk1 ?_ _ | refine zk2 ?_ | refine zk3 ?_ _); (iterate 9 refine blk_far ?_ NB200_240.out _); (with_reducible repeat first | refine zk1 ?_ _ | refine zk2 ?_ | refine zk3 ?_ _); exact BK200.out) k_ hk_), (Kd.freshB (g := gb201) (o := .cells #[.int .i64 a0_13, .int .i64 a0_14, .int .i64 a0_15, .int .i64 a0_16, .int .i64 a0_17, .slice A0_18 l0_18.length c0_18, .slice A0_19 l0_19.length c0_19, .slice A0_20 l0_20.length c0_20, .bool a0_21] 34 (0, 0)) (by (with_reducible repeat first | refine zk1 ?_ _ | refine zk2 ?_ | refine zk3 ?_ _); (iterate 9 refine blk_far ?_ NB201_240.out _); (with_reducible repeat first | refine zk1 ?_ _ | refine zk2 ?_ | refine zk3 ?_ _); exact BK201.out) k_ hk_), (Kd.freshB (g := gb223) (o := .cells #[.int .i64 t207, .int .i64 t208, .int .i64 t209, .int .i64 t210, .int .i64 t211, .slice Ao38 t212.length co38, .slice Ao39 t215.length co39, .slice Ao40 t218.length co40, .bool t221] 34 (0, 0)) (by (with_reducible repeat first | refine zk1 ?_ _ | refine zk2 ?_ | refine zk3 ?_ _); (iterate 9 refine blk_far ?_ NB223_240.out _); (with_reducible repeat first | refine zk1 ?_ _ | refine zk2 ?_ | refine zk3 ?_ _); exact BK223.out) k_ hk_), (Kd.freshB (g := gb240) (o := .cells #[.int .i64 t224, .int .i64 t225, .int .i64 t226, .int .i64 t227, .int .i64 t228, .slice Ao49 t229.length co49, .slice Ao50 t232.length co50, .slice Ao51 t235.length co51, .bool t238] 34 (0, 0)) (by (with_reducible repeat first | refine zk1 ?_ _ | refine zk2 ?_ | refine zk3 ?_ _); exact put9 (by (with_reducible repeat first | refine zk1 ?_ _ | refine zk2 ?_ | refine zk3 ?_ _); exact BK240.out) _ _ _ _ _ _ _ _ _) k_ hk_)⟩)) (below_size (by repeat (first | (with_reducible first | exact HB.out | apply zb1 | apply zb2 | apply zb3 | refine zb4 ?_ GE198.out | refine zb4 ?_ GE199.out | refine zb4 ?_ GE200.out | refine zb4 ?_ GE201.out | refine zb4 ?_ GE223.out | refine zb4 ?_ GE240.out) | exact HB.out)))); have n9_ := zm (blk_below (g := gb198) (o := .cells #[.int .i64 a0_0, .int .i64 a0_1, .int .i64 a0_2, .int .i64 a0_3, .int .i64 a0_4, .slice A0_5 l0_5.length c0_5, .slice A0_6 l0_6.length c0_6, .slice A0_7 l0_7.length c0_7, .bool a0_8, .string a0_9, .int .i64 a0_10, .int .i64 a0_11, .int .i64 a0_12, .int .i64 a0_13, .int .i64 a0_14, .int .i64 a0_15, .int .i64 a0_16, .int .i64 a0_17, .slice A0_18 l0_18.length c0_18, .slice A0_19 l0_19.length c0_19, .slice A0_20 l0_20.length c0_20, .bool a0_21] 46 (0, 0)) (by (with_reducible repeat first | refine zk1 ?_ _ | refine zk2 ?_ | refine zk3 ?_ _); (iterate 9 refine blk_far ?_ NB198_240.out _); (with_reducible repeat first | refine zk1 ?_ _ | refine zk2 ?_ | refine zk3 ?_ _); exact BK198.out) hb); have n10_ := zm (blk_below (g := gb199) (o := .cells #[.int .i64 a0_0, .int .i64 a0_1, .int .i64 a0_2, .int .i64 a0_3, .int .i64 a0_4, .slice A0_5 l0_5.length c0_5, .slice A0_6 l0_6.length c0_6, .slice A0_7 l0_7.length c0_7, .bool a0_8] 34 (0, 0)) (by (with_reducible repeat first | refine zk1 ?_ _ | refine zk2 ?_ | refine zk3 ?_ _); (iterate 9 refine blk_far ?_ NB199_240.out _); (with_reducible repeat first | refine zk1 ?_ _ | refine zk2 ?_ | refine zk3 ?_ _); exact BK199.out) hb); have n11_ := zm (blk_below (g := gb200) (o := .cells #[.int .i64 a0_10, .int .i64 a0_11, .int .i64 a0_12] 23 (0, 0)) (by (with_reducible repeat first | refine zk1 ?_ _ | refine zk2 ?_ | refine zk3 ?_ _); (iterate 9 refine blk_far ?_ NB200_240.out _); (with_reducible repeat first | refine zk1 ?_ _ | refine zk2 ?_ | refine zk3 ?_ _); exact BK200.out) hb); have n12_ := zm (blk_below (g := gb201) (o := .cells #[.int .i64 a0_13, .int .i64 a0_14, .int .i64 a0_15, .int .i64 a0_16, .int .i64 a0_17, .slice A0_18 l0_18.length c0_18, .slice A0_19 l0_19.length c0_19, .slice A0_20 l0_20.length c0_20, .bool a0_21] 34 (0, 0)) (by (with_reducible repeat first | refine zk1 ?_ _ | refine zk2 ?_ | refine zk3 ?_ _); (iterate 9 refine blk_far ?_ NB201_240.out _); (with_reducible repeat first | refine zk1 ?_ _ | refine zk2 ?_ | refine zk3 ?_ _); exact BK201.out) hb); have n13_ := zm (blk_below (g := gb223) (o := .cells #[.int .i64 t207, .int .i64 t208, .int .i64 t209, .int .i64 t210, .int .i64 t211, .slice Ao38 t212.length co38, .slice Ao39 t215.length co39, .slice Ao40 t218.length co40, .bool t221] 34 (0, 0)) (by (with_reducible repeat first | refine zk1 ?_ _ | refine zk2 ?_ | refine zk3 ?_ _); (iterate 9 refine blk_far ?_ NB223_240.out _); (with_reducible repeat first | refine zk1 ?_ _ | refine zk2 ?_ | refine zk3 ?_ _); exact BK223.out) hb); have n14_ := zm (blk_below (g := gb240) (o := .cells #[.int .i64 t224, .int .i64 t225, .int .i64 t226, .int .i64 t227, .int .i64 t228, .slice Ao49 t229.length co49, .slice Ao50 t232.length co50, .slice Ao51 t235.length co51, .bool t238] 34 (0, 0)) (by (with_reducible repeat first | refine zk1 ?_ _ | refine zk2 ?_ | refine zk3 ?_ _); exact put9 (by (with_reducible repeat first | refine zk1 ?_ _ | refine zk2 ?_ | refine zk3 ?_ _); exact BK240.out) _ _ _ _ _ _ _ _ _) hb); have n15_ := zm (below_step (by repeat (first | (with_reducible first | exact HB.out | apply zb1 | apply zb2 | apply zb3 | refine zb4 ?_ GE198.out | refine zb4 ?_ GE199.out | refine zb4 ?_ GE200.out | refine zb4 ?_ GE201.out | refine zb4 ?_ GE223.out | refine zb4 ?_ GE240.out) | exact HB.out)) hb); clear HO214 HO217 HO220 HO231 HO234 HO237 BK198 BK199 BK200 BK201 BK223 BK240 HB; have HO214 := n0_; have HO217 := n1_; have HO220 := n2_; have HO231 := n3_; have HO234 := n4_; have HO237 := n5_; have HO245 := n6_; have HO248 := n7_; have HO251 := n8_; have BK198 := n9_; have BK199 := n10_; have BK200 := n11_; have BK201 := n12_; have BK223 := n13_; have BK240 := n14_; have HB := n15_; clear n0_ n1_ n2_ n3_ n4_ n5_ n6_ n7_ n8_ n9_ n10_ n11_ n12_ n13_ n14_ n15_; (try clear hb); (try clear hb2); (try clear hk); (try clear hi); (try clear ho0); (try clear ho1); (try clear ho2)) | ((with_reducible refine gate_dst (N := 16) rfl ?_); refine box_event ?hg (N := 16) ?hd (cs := #[.int .i64 0, .int .i64 0, .slice none 0 0, .slice none 0 0, .slice none 0 0, .bool false]) (t := 29) ?hr ?_; (case hd => rfl); (case hg => rfl); (case hr => first | (go_simp; done) | (go_simp; rfl)); intro gb254 hg w54 hbox hb; have n0_ := zm (Kd.V_below (Kd.V_elderB (by (with_reducible repeat first | apply ze1 | apply ze2 | apply ze3); exact HO214.out) gb254 (Nat.le_of_eq hg.symm)) hb); have n1_ := zm (Kd.V_below (Kd.V_elderB (by (with_reducible repeat first | apply ze1 | apply ze2 | apply ze3); exact HO217.out) gb254 (Nat.le_of_eq hg.symm)) hb); have n2_ := zm (Kd.V_below (Kd.V_elderB (by (with_reducible repeat first | apply ze1 | apply ze2 | apply ze3); exact HO220.out) gb254 (Nat.le_of_eq hg.symm)) hb); have n3_ := zm (Kd.V_below (Kd.V_elderB (by (with_reducible repeat first | apply ze1 | apply ze2 | apply ze3); exact HO231.out) gb254 (Nat.le_of_eq hg.symm)) hb); have n4_ := zm (Kd.V_below (Kd.V_elderB (by (with_reducible repeat first | apply ze1 | apply ze2 | apply ze3); exact HO234.out) gb254 (Nat.le_of_eq hg.symm)) hb); have n5_ := zm (Kd.V_below (Kd.V_elderB (by (with_reducible repeat first | apply ze1 | apply ze2 | apply ze3); exact HO237.out) gb254 (Nat.le_of_eq hg.symm)) hb); have n6_ := zm (Kd.V_below (Kd.V_elderB (by (with_reducible repeat first | apply ze1 | apply ze2 | apply ze3); exact HO245.out) gb254 (Nat.le_of_eq hg.symm)) hb); have n7_ := zm (Kd.V_below (Kd.V_elderB (by (with_reducible repeat first | apply ze1 | apply ze2 | apply ze3); exact HO248.out) gb254 (Nat.le_of_eq hg.symm)) hb); have n8_ := zm (Kd.V_below (Kd.V_elderB (by (with_reducible repeat first | apply ze1 | apply ze2 | apply ze3); exact HO251.out) gb254 (Nat.le_of_eq hg.symm)) hb); have n9_ := zm (blk_below (g := gb198) (o := .cells #[.int .i64 a0_0, .int .i64 a0_1, .int .i64 a0_2, .int .i64 a0_3, .int .i64 a0_4, .slice A0_5 l0_5.length c0_5, .slice A0_6 l0_6.length c0_6, .slice A0_7 l0_7.length c0_7, .bool a0_8, .string a0_9, .int .i64 a0_10, .int .i64 a0_11, .int .i64 a0_12, .int .i64 a0_13, .int .i64 a0_14, .int .i64 a0_15, .int .i64 a0_16, .int .i64 a0_17, .slice A0_18 l0_18.length c0_18, .slice A0_19 l0_19.length c0_19, .slice A0_20 l0_20.length c0_20, .bool a0_21] 46 (0, 0)) (by (with_reducible repeat first | refine zk1 ?_ _ | refine zk2 ?_ | refine zk3 ?_ _); exact BK198.out) hb); have n10_ := zm (blk_below (g := gb199) (o := .cells #[.int .i64 a0_0, .int .i64 a0_1, .int .i64 a0_2, .int .i64 a0_3, .int .i64 a0_4, .slice A0_5 l0_5.length c0_5, .slice A0_6 l0_6.length c0_6, .slice A0_7 l0_7.length c0_7, .bool a0_8] 34 (0, 0)) (by (with_reducible repeat first | refine zk1 ?_ _ | refine zk2 ?_ | refine zk3 ?_ _); exact BK199.out) hb); have n11_ := zm (blk_below (g := gb200) (o := .cells #[.int .i64 a0_10, .int .i64 a0_11, .int .i64 a0_12] 23 (0, 0)) (by (with_reducible repeat first | refine zk1 ?_ _ | refine zk2 ?_ | refine zk3 ?_ _); exact BK200.out) hb); have n12_ := zm (blk_below (g := gb201) (o := .cells #[.int .i64 a0_13, .int .i64 a0_14, .int .i64 a0_15, .int .i64 a0_16, .int .i64 a0_17, .slice A0_18 l0_18.length c0_18, .slice A0_19 l0_19.length c0_19, .slice A0_20 l0_20.length c0_20, .bool a0_21] 34 (0, 0)) (by (with_reducible repeat first | refine zk1 ?_ _ | refine zk2 ?_ | refine zk3 ?_ _); exact BK201.out) hb); have n13_ := zm (blk_below (g := gb223) (o := .cells #[.int .i64 t207, .int .i64 t208, .int .i64 t209, .int .i64 t210, .int .i64 t211, .slice Ao38 t212.length co38, .slice Ao39 t215.length co39, .slice Ao40 t218.length co40, .bool t221] 34 (0, 0)) (by (with_reducible repeat first | refine zk1 ?_ _ | refine zk2 ?_ | refine zk3 ?_ _); exact BK223.out) hb); have n14_ := zm (blk_below (g := gb240) (o := .cells #[.int .i64 t224, .int .i64 t225, .int .i64 t226, .int .i64 t227, .int .i64 t228, .slice Ao49 t229.length co49, .slice Ao50 t232.length co50, .slice Ao51 t235.length co51, .bool t238] 34 (0, 0)) (by (with_reducible repeat first | refine zk1 ?_ _ | refine zk2 ?_ | refine zk3 ?_ _); exact BK240.out) hb); have n15_ := zm (below_step (by repeat (first | (with_reducible first | exact HB.out | apply zb1 | apply zb2 | apply zb3 | refine zb4 ?_ GE198.out | refine zb4 ?_ GE199.out | refine zb4 ?_ GE200.out | refine zb4 ?_ GE201.out | refine zb4 ?_ GE223.out | refine zb4 ?_ GE240.out) | exact HB.out)) hb); have n16_ := zm (hbox); have n17_ := zm ((by rw [hg]; exact (below_size (by repeat (first | (with_reducible first | exact HB.out | apply zb1 | apply zb2 | apply zb3 | refine zb4 ?_ GE198.out | refine zb4 ?_ GE199.out | refine zb4 ?_ GE200.out | refine zb4 ?_ GE201.out | refine zb4 ?_ GE223.out | refine zb4 ?_ GE240.out) | exact HB.out))) : w.heap.size ≤ gb254)); have n18_ := zm ((by rw [hg]; exact (below_size (by repeat (first | (with_reducible first | exact HB.out | apply zb1 | apply zb2 | apply zb3 | refine zb4 ?_ GE198.out | refine zb4 ?_ GE199.out | refine zb4 ?_ GE200.out | refine zb4 ?_ GE201.out | refine zb4 ?_ GE223.out | refine zb4 ?_ GE240.out) | exact HB.out))) : w.heap.size ≤ gb254)); have n19_ := zm ((by rw [hg]; exact Nat.ne_of_lt (blk_lt (g := gb198) (by (with_reducible repeat first | refine zk1 ?_ _ | refine zk2 ?_ | refine zk3 ?_ _); exact BK198.out)) : gb198 ≠ gb254)); have n20_ := zm ((by rw [hg]; exact Nat.ne_of_gt (blk_lt (g := gb198) (by (with_reducible repeat first | refine zk1 ?_ _ | refine zk2 ?_ | refine zk3 ?_ _); exact BK198.out)) : gb254 ≠ gb198)); have n21_ := zm ((by rw [hg]; exact Nat.ne_of_lt (blk_lt (g := gb199) (by (with_reducible repeat first | refine zk1 ?_ _ | refine zk2 ?_ | refine zk3 ?_ _); exact BK199.out)) : gb199 ≠ gb254)); have n22_ := zm ((by rw [hg]; exact Nat.ne_of_gt (blk_lt (g := gb199) (by (with_reducible repeat first | refine zk1 ?_ _ | refine zk2 ?_ | refine zk3 ?_ _); exact BK199.out)) : gb254 ≠ gb199)); have n23_ := zm ((by rw [hg]; exact Nat.ne_of_lt (blk_lt (g := gb200) (by (with_reducible repeat first | refine zk1 ?_ _ | refine zk2 ?_ | refine zk3 ?_ _); exact BK200.out)) : gb200 ≠ gb254)); have n24_ := zm ((by rw [hg]; exact Nat.ne_of_gt (blk_lt (g := gb200) (by (with_reducible repeat first | refine zk1 ?_ _ | refine zk2 ?_ | refine zk3 ?_ _); exact BK200.out)) : gb254 ≠ gb200)); have n25_ := zm ((by rw [hg]; exact Nat.ne_of_lt (blk_lt (g := gb201) (by (with_reducible repeat first | refine zk1 ?_ _ | refine zk2 ?_ | refine zk3 ?_ _); exact BK201.out)) : gb201 ≠ gb254)); have n26_ := zm ((by rw [hg]; exact Nat.ne_of_gt (blk_lt (g := gb201) (by (with_reducible repeat first | refine zk1 ?_ _ | refine zk2 ?_ | refine zk3 ?_ _); exact BK201.out)) : gb254 ≠ gb201)); have n27_ := zm ((by rw [hg]; exact Nat.ne_of_lt (blk_lt (g := gb223) (by (with_reducible repeat first | refine zk1 ?_ _ | refine zk2 ?_ | refine zk3 ?_ _); exact BK223.out)) : gb223 ≠ gb254)); have n28_ := zm ((by rw [hg]; exact Nat.ne_of_gt (blk_lt (g := gb223) (by (with_reducible repeat first | refine zk1 ?_ _ | refine zk2 ?_ | refine zk3 ?_ _); exact BK223.out)) : gb254 ≠ gb223)); have n29_ := zm ((by rw [hg]; exact Nat.ne_of_lt (blk_lt (g := gb240) (by (with_reducible repeat first | refine zk1 ?_ _ | refine zk2 ?_ | refine zk3 ?_ _); exact BK240.out)) : gb240 ≠ gb254)); have n30_ := zm ((by rw [hg]; exact Nat.ne_of_gt (blk_lt (g := gb240) (by (with_reducible repeat first | refine zk1 ?_ _ | refine zk2 ?_ | refine zk3 ?_ _); exact BK240.out)) : gb254 ≠ gb240)); clear HO214 HO217 HO220 HO231 HO234 HO237 HO245 HO248 HO251 BK198 BK199 BK200 BK201 BK223 BK240 HB; have HO214 := n0_; have HO217 := n1_; have HO220 := n2_; have HO231 := n3_; have HO234 := n4_; have HO237 := n5_; have HO245 := n6_; have HO248 := n7_; have HO251 := n8_; have BK198 := n9_; have BK199 := n10_; have BK200 := n11_; have BK201 := n12_; have BK223 := n13_; have BK240 := n14_; have HB := n15_; have BK254 := n16_; have GW254 := n17_; have GE254 := n18_; have NB198_254 := n19_; have NB254_198 := n20_; have NB199_254 := n21_; have NB254_199 := n22_; have NB200_254 := n23_; have NB254_200 := n24_; have NB201_254 := n25_; have NB254_201 := n26_; have NB223_254 := n27_; have NB254_223 := n28_; have NB240_254 := n29_; have NB254_240 := n30_; clear n0_ n1_ n2_ n3_ n4_ n5_ n6_ n7_ n8_ n9_ n10_ n11_ n12_ n13_ n14_ n15_ n16_ n17_ n18_ n19_ n20_ n21_ n22_ n23_ n24_ n25_ n26_ n27_ n28_ n29_ n30_; clear hb hbox hg; have hnb55 := NB254_198.out; have hnc55 := NB198_254.out; have hnb56 := NB254_199.out; have hnc56 := NB199_254.out; have hnb57 := NB254_200.out; have hnc57 := NB200_254.out; have hnb58 := NB254_201.out; have hnc58 := NB201_254.out; have hnb59 := NB254_223.out; have hnc59 := NB223_254.out; have hnb60 := NB254_240.out; have hnc60 := NB240_254.out; have hcz61_0 : w54.cell? ⟨gb254, 0, none⟩ = some (.int .i64 0) := (blk_cell BK254.out 0).trans rfl; have hcz61_1 : w54.cell? ⟨gb254, 1, none⟩ = some (.int .i64 0) := (blk_cell BK254.out 1).trans rfl; have hcz61_2 : w54.cell? ⟨gb254, 2, none⟩ = some (.slice none 0 0) := (blk_cell BK254.out 2).trans rfl; have hcz61_3 : w54.cell? ⟨gb254, 3, none⟩ = some (.slice none 0 0) := (blk_cell BK254.out 3).trans rfl; have hcz61_4 : w54.cell? ⟨gb254, 4, none⟩ = some (.slice none 0 0) := (blk_cell BK254.out 4).trans rfl; have hcz61_5 : w54.cell? ⟨gb254, 5, none⟩ = some (.bool false) := (blk_cell BK254.out 5).trans rfl; have hfz61_0 := blk_frozen BK254.out 0; have hfz61_1 := blk_frozen BK254.out 1; have hfz61_2 := blk_frozen BK254.out 2; have hfz61_3 := blk_frozen BK254.out 3; have hfz61_4 := blk_frozen BK254.out 4; have hfz61_5 := blk_frozen BK254.out 5; obtain ⟨Ao62, co62, eo62⟩ := Kd.V_slice HO245.out; subst eo62; obtain ⟨Ao63, co63, eo63⟩ := Kd.V_slice HO248.out; subst eo63; obtain ⟨Ao64, co64, eo64⟩ := Kd.V_slice HO251.out; subst eo64; have hcz65_0 : w54.cell? ⟨gb200, 0, none⟩ = some (.int .i64 a0_10) := (blk_cell BK200.out 0).trans rfl; have hcz65_1 : w54.cell? ⟨gb200, 1, none⟩ = some (.int .i64 a0_11) := (blk_cell BK200.out 1).trans rfl; have hcz65_2 : w54.cell? ⟨gb200, 2, none⟩ = some (.int .i64 a0_12) := (blk_cell BK200.out 2).trans rfl; have hfz65_0 := blk_frozen BK200.out 0; have hfz65_1 := blk_frozen BK200.out 1; have hfz65_2 := blk_frozen BK200.out 2) | ((with_reducible refine gate_callee (f := 15) rfl ?_); refine goesL_ (some 59) rfl rfl Tryd.func15 (by kernel_rfl) rfl #[.string a0_9, .agg #[.int .i64 a0_10, .int .i64 a0_11, .int .i64 a0_12]] rfl (by (try simp only [List.map_toArray, List.map_cons, List.map_nil]); first | done | rfl | (simp only [List.length_drop, List.length_take]; rfl)) ?_; (with_reducible refine (tallystickref14_Of.calls a0_9 a0_10 a0_11 a0_12 t255 t256 t257 t260 t263 t266 t267 _ A8.out).mono ?_); rintro e w66 ⟨v258, v261, v264, rfl, ho0, ho1, ho2, hb⟩; clear A8; refine ⟨_, rfl, ?_⟩; have n0_ := zm (Kd.V_below (by (with_reducible repeat first | apply ze1 | apply ze2 | apply ze3); exact (vfar6 (g := gb254) HO214.out (fun k_ hk => hk.2) _ _ _ _ _ _)) hb); have n1_ := zm (Kd.V_below (by (with_reducible repeat first | apply ze1 | apply ze2 | apply ze3); exact (vfar6 (g := gb254) HO217.out (fun k_ hk => hk.2) _ _ _ _ _ _)) hb); have n2_ := zm (Kd.V_below (by (with_reducible repeat first | apply ze1 | apply ze2 | apply ze3); exact (vfar6 (g := gb254) HO220.out (fun k_ hk => hk.2) _ _ _ _ _ _)) hb); have n3_ := zm (Kd.V_below (by (with_reducible repeat first | apply ze1 | apply ze2 | apply ze3); exact (vfar6 (g := gb254) HO231.out (fun k_ hk => hk.2) _ _ _ _ _ _)) hb); have n4_ := zm (Kd.V_below (by (with_reducible repeat first | apply ze1 | apply ze2 | apply ze3); exact (vfar6 (g := gb254) HO234.out (fun k_ hk => hk.2) _ _ _ _ _ _)) hb); have n5_ := zm (Kd.V_below (by (with_reducible repeat first | apply ze1 | apply ze2 | apply ze3); exact (vfar6 (g := gb254) HO237.out (fun k_ hk => hk.2) _ _ _ _ _ _)) hb); have n6_ := zm (Kd.V_below (by (with_reducible repeat first | apply ze1 | apply ze2 | apply ze3); exact (vfar6 (g := gb254) HO245.out (fun k_ hk => hk.2) _ _ _ _ _ _)) hb); have n7_ := zm (Kd.V_below (by (with_reducible repeat first | apply ze1 | apply ze2 | apply ze3); exact (vfar6 (g := gb254) HO248.out (fun k_ hk => hk.2) _ _ _ _ _ _)) hb); have n8_ := zm (Kd.V_below (by (with_reducible repeat first | apply ze1 | apply ze2 | apply ze3); exact (vfar6 (g := gb254) HO251.out (fun k_ hk => hk.2) _ _ _ _ _ _)) hb); have n9_ := zm (Kd.V_lower (Kd.V_mono (ok' := fun k_ => k_ ≠ gb198 ∧ k_ ≠ gb199 ∧ k_ ≠ gb200 ∧ k_ ≠ gb201 ∧ k_ ≠ gb223 ∧ k_ ≠ gb240 ∧ k_ ≠ gb254) ho0 (fun k_ hk_ => ⟨(Kd.freshB (g := gb198) (o := .cells #[.int .i64 a0_0, .int .i64 a0_1, .int .i64 a0_2, .int .i64 a0_3, .int .i64 a0_4, .slice A0_5 l0_5.length c0_5, .slice A0_6 l0_6.length c0_6, .slice A0_7 l0_7.length c0_7, .bool a0_8, .string a0_9, .int .i64 a0_10, .int .i64 a0_11, .int .i64 a0_12, .int .i64 a0_13, .int .i64 a0_14, .int .i64 a0_15, .int .i64 a0_16, .int .i64 a0_17, .slice A0_18 l0_18.length c0_18, .slice A0_19 l0_19.length c0_19, .slice A0_20 l0_20.length c0_20, .bool a0_21] 46 (0, 0)) (by (with_reducible repeat first | refine zk1 ?_ _ | refine zk2 ?_ | refine zk3 ?_ _); (iterate 6 refine blk_far ?_ NB198_254.out _); (with_reducible repeat first | refine zk1 ?_ _ | refine zk2 ?_ | refine zk3 ?_ _); exact BK198.out) k_ hk_), (Kd.freshB (g := gb199) (o := .cells #[.int .i64 a0_0, .int .i64 a0_1, .int .i64 a0_2, .int .i64 a0_3, .int .i64 a0_4, .slice A0_5 l0_5.length c0_5, .slice A0_6 l0_6.length c0_6, .slice A0_7 l0_7.length c0_7, .bool a0_8] 34 (0, 0)) (by (with_reducible repeat first | refine zk1 ?_ _ | refine zk2 ?_ | refine zk3 ?_ _); (iterate 6 refine blk_far ?_ NB199_254.out _); (with_reducible repeat first | refine zk1 ?_ _ | refine zk2 ?_ | refine zk3 ?_ _); exact BK199.out) k_ hk_), (Kd.freshB (g := gb200) (o := .cells #[.int .i64 a0_10, .int .i64 a0_11, .int .i64 a0_12] 23 (0, 0)) (by (with_reducible repeat first | refine zk1 ?_ _ | refine zk2 ?_ | refine zk3 ?_ _); (iterate 6 refine blk_far ?_ NB200_254.out _); (with_reducible repeat first | refine zk1 ?_ _ | refine zk2 ?_ | refine zk3 ?_ _); exact BK200.out) k_ hk_), (Kd.freshB (g := gb201) (o := .cells #[.int .i64 a0_13, .int .i64 a0_14, .int .i64 a0_15, .int .i64 a0_16, .int .i64 a0_17, .slice A0_18 l0_18.length c0_18, .slice A0_19 l0_19.length c0_19, .slice A0_20 l0_20.length c0_20, .bool a0_21] 34 (0, 0)) (by (with_reducible repeat first | refine zk1 ?_ _ | refine zk2 ?_ | refine zk3 ?_ _); (iterate 6 refine blk_far ?_ NB201_254.out _); (with_reducible repeat first | refine zk1 ?_ _ | refine zk2 ?_ | refine zk3 ?_ _); exact BK201.out) k_ hk_), (Kd.freshB (g := gb223) (o := .cells #[.int .i64 t207, .int .i64 t208, .int .i64 t209, .int .i64 t210, .int .i64 t211, .slice Ao38 t212.length co38, .slice Ao39 t215.length co39, .slice Ao40 t218.length co40, .bool t221] 34 (0, 0)) (by (with_reducible repeat first | refine zk1 ?_ _ | refine zk2 ?_ | refine zk3 ?_ _); (iterate 6 refine blk_far ?_ NB223_254.out _); (with_reducible repeat first | refine zk1 ?_ _ | refine zk2 ?_ | refine zk3 ?_ _); exact BK223.out) k_ hk_), (Kd.freshB (g := gb240) (o := .cells #[.int .i64 t224, .int .i64 t225, .int .i64 t226, .int .i64 t227, .int .i64 t228, .slice Ao49 t229.length co49, .slice Ao50 t232.length co50, .slice Ao51 t235.length co51, .bool t238] 34 (0, 0)) (by (with_reducible repeat first | refine zk1 ?_ _ | refine zk2 ?_ | refine zk3 ?_ _); (iterate 6 refine blk_far ?_ NB240_254.out _); (with_reducible repeat first | refine zk1 ?_ _ | refine zk2 ?_ | refine zk3 ?_ _); exact BK240.out) k_ hk_), (Kd.freshB (g := gb254) (o := .cells #[.int .i64 t241, .int .i64 t242, .slice Ao62 t243.length co62, .slice Ao63 t246.length co63, .slice Ao64 t249.length co64, .bool t252] 29 (0, 0)) (by (with_reducible repeat first | refine zk1 ?_ _ | refine zk2 ?_ | refine zk3 ?_ _); exact put6 (by (with_reducible repeat first | refine zk1 ?_ _ | refine zk2 ?_ | refine zk3 ?_ _); exact BK254.out) _ _ _ _ _ _) k_ hk_)⟩)) (below_size (by repeat (first | (with_reducible first | exact HB.out | apply zb1 | apply zb2 | apply zb3 | refine zb4 ?_ GE198.out | refine zb4 ?_ GE199.out | refine zb4 ?_ GE200.out | refine zb4 ?_ GE201.out | refine zb4 ?_ GE223.out | refine zb4 ?_ GE240.out | refine zb4 ?_ GE254.out) | exact HB.out)))); have n10_ := zm (Kd.V_lower (Kd.V_mono (ok' := fun k_ => k_ ≠ gb198 ∧ k_ ≠ gb199 ∧ k_ ≠ gb200 ∧ k_ ≠ gb201 ∧ k_ ≠ gb223 ∧ k_ ≠ gb240 ∧ k_ ≠ gb254) ho1 (fun k_ hk_ => ⟨(Kd.freshB (g := gb198) (o := .cells #[.int .i64 a0_0, .int .i64 a0_1, .int .i64 a0_2, .int .i64 a0_3, .int .i64 a0_4, .slice A0_5 l0_5.length c0_5, .slice A0_6 l0_6.length c0_6, .slice A0_7 l0_7.length c0_7, .bool a0_8, .string a0_9, .int .i64 a0_10, .int .i64 a0_11, .int .i64 a0_12, .int .i64 a0_13, .int .i64 a0_14, .int .i64 a0_15, .int .i64 a0_16, .int .i64 a0_17, .slice A0_18 l0_18.length c0_18, .slice A0_19 l0_19.length c0_19, .slice A0_20 l0_20.length c0_20, .bool a0_21] 46 (0, 0)) (by (with_reducible repeat first | refine zk1 ?_ _ | refine zk2 ?_ | refine zk3 ?_ _); (iterate 6 refine blk_far ?_ NB198_254.out _); (with_reducible repeat first | refine zk1 ?_ _ | refine zk2 ?_ | refine zk3 ?_ _); exact BK198.out) k_ hk_), (Kd.freshB (g := gb199) (o := .cells #[.int .i64 a0_0, .int .i64 a0_1, .int .i64 a0_2, .int .i64 a0_3, .int .i64 a0_4, .slice A0_5 l0_5.length c0_5, .slice A0_6 l0_6.length c0_6, .slice A0_7 l0_7.length c0_7, .bool a0_8] 34 (0, 0)) (by (with_reducible repeat first | refine zk1 ?_ _ | refine zk2 ?_ | refine zk3 ?_ _); (iterate 6 refine blk_far ?_ NB199_254.out _); (with_reducible repeat first | refine zk1 ?_ _ | refine zk2 ?_ | refine zk3 ?_ _); exact BK199.out) k_ hk_), (Kd.freshB (g := gb200) (o := .cells #[.int .i64 a0_10, .int .i64 a0_11, .int .i64 a0_12] 23 (0, 0)) (by (with_reducible repeat first | refine zk1 ?_ _ | refine zk2 ?_ | refine zk3 ?_ _); (iterate 6 refine blk_far ?_ NB200_254.out _); (with_reducible repeat first | refine zk1 ?_ _ | refine zk2 ?_ | refine zk3 ?_ _); exact BK200.out) k_ hk_), (Kd.freshB (g := gb201) (o := .cells #[.int .i64 a0_13, .int .i64 a0_14, .int .i64 a0_15, .int .i64 a0_16, .int .i64 a0_17, .slice A0_18 l0_18.length c0_18, .slice A0_19 l0_19.length c0_19, .slice A0_20 l0_20.length c0_20, .bool a0_21] 34 (0, 0)) (by (with_reducible repeat first | refine zk1 ?_ _ | refine zk2 ?_ | refine zk3 ?_ _); (iterate 6 refine blk_far ?_ NB201_254.out _); (with_reducible repeat first | refine zk1 ?_ _ | refine zk2 ?_ | refine zk3 ?_ _); exact BK201.out) k_ hk_), (Kd.freshB (g := gb223) (o := .cells #[.int .i64 t207, .int .i64 t208, .int .i64 t209, .int .i64 t210, .int .i64 t211, .slice Ao38 t212.length co38, .slice Ao39 t215.length co39, .slice Ao40 t218.length co40, .bool t221] 34 (0, 0)) (by (with_reducible repeat first | refine zk1 ?_ _ | refine zk2 ?_ | refine zk3 ?_ _); (iterate 6 refine blk_far ?_ NB223_254.out _); (with_reducible repeat first | refine zk1 ?_ _ | refine zk2 ?_ | refine zk3 ?_ _); exact BK223.out) k_ hk_), (Kd.freshB (g := gb240) (o := .cells #[.int .i64 t224, .int .i64 t225, .int .i64 t226, .int .i64 t227, .int .i64 t228, .slice Ao49 t229.length co49, .slice Ao50 t232.length co50, .slice Ao51 t235.length co51, .bool t238] 34 (0, 0)) (by (with_reducible repeat first | refine zk1 ?_ _ | refine zk2 ?_ | refine zk3 ?_ _); (iterate 6 refine blk_far ?_ NB240_254.out _); (with_reducible repeat first | refine zk1 ?_ _ | refine zk2 ?_ | refine zk3 ?_ _); exact BK240.out) k_ hk_), (Kd.freshB (g := gb254) (o := .cells #[.int .i64 t241, .int .i64 t242, .slice Ao62 t243.length co62, .slice Ao63 t246.length co63, .slice Ao64 t249.length co64, .bool t252] 29 (0, 0)) (by (with_reducible repeat first | refine zk1 ?_ _ | refine zk2 ?_ | refine zk3 ?_ _); exact put6 (by (with_reducible repeat first | refine zk1 ?_ _ | refine zk2 ?_ | refine zk3 ?_ _); exact BK254.out) _ _ _ _ _ _) k_ hk_)⟩)) (below_size (by repeat (first | (with_reducible first | exact HB.out | apply zb1 | apply zb2 | apply zb3 | refine zb4 ?_ GE198.out | refine zb4 ?_ GE199.out | refine zb4 ?_ GE200.out | refine zb4 ?_ GE201.out | refine zb4 ?_ GE223.out | refine zb4 ?_ GE240.out | refine zb4 ?_ GE254.out) | exact HB.out)))); have n11_ := zm (Kd.V_lower (Kd.V_mono (ok' := fun k_ => k_ ≠ gb198 ∧ k_ ≠ gb199 ∧ k_ ≠ gb200 ∧ k_ ≠ gb201 ∧ k_ ≠ gb223 ∧ k_ ≠ gb240 ∧ k_ ≠ gb254) ho2 (fun k_ hk_ => ⟨(Kd.freshB (g := gb198) (o := .cells #[.int .i64 a0_0, .int .i64 a0_1, .int .i64 a0_2, .int .i64 a0_3, .int .i64 a0_4, .slice A0_5 l0_5.length c0_5, .slice A0_6 l0_6.length c0_6, .slice A0_7 l0_7.length c0_7, .bool a0_8, .string a0_9, .int .i64 a0_10, .int .i64 a0_11, .int .i64 a0_12, .int .i64 a0_13, .int .i64 a0_14, .int .i64 a0_15, .int .i64 a0_16, .int .i64 a0_17, .slice A0_18 l0_18.length c0_18, .slice A0_19 l0_19.length c0_19, .slice A0_20 l0_20.length c0_20, .bool a0_21] 46 (0, 0)) (by (with_reducible repeat first | refine zk1 ?_ _ | refine zk2 ?_ | refine zk3 ?_ _); (iterate 6 refine blk_far ?_ NB198_254.out _); (with_reducible repeat first | refine zk1 ?_ _ | refine zk2 ?_ | refine zk3 ?_ _); exact BK198.out) k_ hk_), (Kd.freshB (g := gb199) (o := .cells #[.int .i64 a0_0, .int .i64 a0_1, .int .i64 a0_2, .int .i64 a0_3, .int .i64 a0_4, .slice A0_5 l0_5.length c0_5, .slice A0_6 l0_6.length c0_6, .slice A0_7 l0_7.length c0_7, .bool a0_8] 34 (0, 0)) (by (with_reducible repeat first | refine zk1 ?_ _ | refine zk2 ?_ | refine zk3 ?_ _); (iterate 6 refine blk_far ?_ NB199_254.out _); (with_reducible repeat first | refine zk1 ?_ _ | refine zk2 ?_ | refine zk3 ?_ _); exact BK199.out) k_ hk_), (Kd.freshB (g := gb200) (o := .cells #[.int .i64 a0_10, .int .i64 a0_11, .int .i64 a0_12] 23 (0, 0)) (by (with_reducible repeat first | refine zk1 ?_ _ | refine zk2 ?_ | refine zk3 ?_ _); (iterate 6 refine blk_far ?_ NB200_254.out _); (with_reducible repeat first | refine zk1 ?_ _ | refine zk2 ?_ | refine zk3 ?_ _); exact BK200.out) k_ hk_), (Kd.freshB (g := gb201) (o := .cells #[.int .i64 a0_13, .int .i64 a0_14, .int .i64 a0_15, .int .i64 a0_16, .int .i64 a0_17, .slice A0_18 l0_18.length c0_18, .slice A0_19 l0_19.length c0_19, .slice A0_20 l0_20.length c0_20, .bool a0_21] 34 (0, 0)) (by (with_reducible repeat first | refine zk1 ?_ _ | refine zk2 ?_ | refine zk3 ?_ _); (iterate 6 refine blk_far ?_ NB201_254.out _); (with_reducible repeat first | refine zk1 ?_ _ | refine zk2 ?_ | refine zk3 ?_ _); exact BK201.out) k_ hk_), (Kd.freshB (g := gb223) (o := .cells #[.int .i64 t207, .int .i64 t208, .int .i64 t209, .int .i64 t210, .int .i64 t211, .slice Ao38 t212.length co38, .slice Ao39 t215.length co39, .slice Ao40 t218.length co40, .bool t221] 34 (0, 0)) (by (with_reducible repeat first | refine zk1 ?_ _ | refine zk2 ?_ | refine zk3 ?_ _); (iterate 6 refine blk_far ?_ NB223_254.out _); (with_reducible repeat first | refine zk1 ?_ _ | refine zk2 ?_ | refine zk3 ?_ _); exact BK223.out) k_ hk_), (Kd.freshB (g := gb240) (o := .cells #[.int .i64 t224, .int .i64 t225, .int .i64 t226, .int .i64 t227, .int .i64 t228, .slice Ao49 t229.length co49, .slice Ao50 t232.length co50, .slice Ao51 t235.length co51, .bool t238] 34 (0, 0)) (by (with_reducible repeat first | refine zk1 ?_ _ | refine zk2 ?_ | refine zk3 ?_ _); (iterate 6 refine blk_far ?_ NB240_254.out _); (with_reducible repeat first | refine zk1 ?_ _ | refine zk2 ?_ | refine zk3 ?_ _); exact BK240.out) k_ hk_), (Kd.freshB (g := gb254) (o := .cells #[.int .i64 t241, .int .i64 t242, .slice Ao62 t243.length co62, .slice Ao63 t246.length co63, .slice Ao64 t249.length co64, .bool t252] 29 (0, 0)) (by (with_reducible repeat first | refine zk1 ?_ _ | refine zk2 ?_ | refine zk3 ?_ _); exact put6 (by (with_reducible repeat first | refine zk1 ?_ _ | refine zk2 ?_ | refine zk3 ?_ _); exact BK254.out) _ _ _ _ _ _) k_ hk_)⟩)) (below_size (by repeat (first | (with_reducible first | exact HB.out | apply zb1 | apply zb2 | apply zb3 | refine zb4 ?_ GE198.out | refine zb4 ?_ GE199.out | refine zb4 ?_ GE200.out | refine zb4 ?_ GE201.out | refine zb4 ?_ GE223.out | refine zb4 ?_ GE240.out | refine zb4 ?_ GE254.out) | exact HB.out)))); have n12_ := zm (blk_below (g := gb198) (o := .cells #[.int .i64 a0_0, .int .i64 a0_1, .int .i64 a0_2, .int .i64 a0_3, .int .i64 a0_4, .slice A0_5 l0_5.length c0_5, .slice A0_6 l0_6.length c0_6, .slice A0_7 l0_7.length c0_7, .bool a0_8, .string a0_9, .int .i64 a0_10, .int .i64 a0_11, .int .i64 a0_12, .int .i64 a0_13, .int .i64 a0_14, .int .i64 a0_15, .int .i64 a0_16, .int .i64 a0_17, .slice A0_18 l0_18.length c0_18, .slice A0_19 l0_19.length c0_19, .slice A0_20 l0_20.length c0_20, .bool a0_21] 46 (0, 0)) (by (with_reducible repeat first | refine zk1 ?_ _ | refine zk2 ?_ | refine zk3 ?_ _); (iterate 6 refine blk_far ?_ NB198_254.out _); (with_reducible repeat first | refine zk1 ?_ _ | refine zk2 ?_ | refine zk3 ?_ _); exact BK198.out) hb); have n13_ := zm (blk_below (g := gb199) (o := .cells #[.int .i64 a0_0, .int .i64 a0_1, .int .i64 a0_2, .int .i64 a0_3, .int .i64 a0_4, .slice A0_5 l0_5.length c0_5, .slice A0_6 l0_6.length c0_6, .slice A0_7 l0_7.length c0_7, .bool a0_8] 34 (0, 0)) (by (with_reducible repeat first | refine zk1 ?_ _ | refine zk2 ?_ | refine zk3 ?_ _); (iterate 6 refine blk_far ?_ NB199_254.out _); (with_reducible repeat first | refine zk1 ?_ _ | refine zk2 ?_ | refine zk3 ?_ _); exact BK199.out) hb); have n14_ := zm (blk_below (g := gb200) (o := .cells #[.int .i64 a0_10, .int .i64 a0_11, .int .i64 a0_12] 23 (0, 0)) (by (with_reducible repeat first | refine zk1 ?_ _ | refine zk2 ?_ | refine zk3 ?_ _); (iterate 6 refine blk_far ?_ NB200_254.out _); (with_reducible repeat first | refine zk1 ?_ _ | refine zk2 ?_ | refine zk3 ?_ _); exact BK200.out) hb); have n15_ := zm (blk_below (g := gb201) (o := .cells #[.int .i64 a0_13, .int .i64 a0_14, .int .i64 a0_15, .int .i64 a0_16, .int .i64 a0_17, .slice A0_18 l0_18.length c0_18, .slice A0_19 l0_19.length c0_19, .slice A0_20 l0_20.length c0_20, .bool a0_21] 34 (0, 0)) (by (with_reducible repeat first | refine zk1 ?_ _ | refine zk2 ?_ | refine zk3 ?_ _); (iterate 6 refine blk_far ?_ NB201_254.out _); (with_reducible repeat first | refine zk1 ?_ _ | refine zk2 ?_ | refine zk3 ?_ _); exact BK201.out) hb); have n16_ := zm (blk_below (g := gb223) (o := .cells #[.int .i64 t207, .int .i64 t208, .int .i64 t209, .int .i64 t210, .int .i64 t211, .slice Ao38 t212.length co38, .slice Ao39 t215.length co39, .slice Ao40 t218.length co40, .bool t221] 34 (0, 0)) (by (with_reducible repeat first | refine zk1 ?_ _ | refine zk2 ?_ | refine zk3 ?_ _); (iterate 6 refine blk_far ?_ NB223_254.out _); (with_reducible repeat first | refine zk1 ?_ _ | refine zk2 ?_ | refine zk3 ?_ _); exact BK223.out) hb); have n17_ := zm (blk_below (g := gb240) (o := .cells #[.int .i64 t224, .int .i64 t225, .int .i64 t226, .int .i64 t227, .int .i64 t228, .slice Ao49 t229.length co49, .slice Ao50 t232.length co50, .slice Ao51 t235.length co51, .bool t238] 34 (0, 0)) (by (with_reducible repeat first | refine zk1 ?_ _ | refine zk2 ?_ | refine zk3 ?_ _); (iterate 6 refine blk_far ?_ NB240_254.out _); (with_reducible repeat first | refine zk1 ?_ _ | refine zk2 ?_ | refine zk3 ?_ _); exact BK240.out) hb); have n18_ := zm (blk_below (g := gb254) (o := .cells #[.int .i64 t241, .int .i64 t242, .slice Ao62 t243.length co62, .slice Ao63 t246.length co63, .slice Ao64 t249.length co64, .bool t252] 29 (0, 0)) (by (with_reducible repeat first | refine zk1 ?_ _ | refine zk2 ?_ | refine zk3 ?_ _); exact put6 (by (with_reducible repeat first | refine zk1 ?_ _ | refine zk2 ?_ | refine zk3 ?_ _); exact BK254.out) _ _ _ _ _ _) hb); have n19_ := zm (below_step (by repeat (first | (with_reducible first | exact HB.out | apply zb1 | apply zb2 | apply zb3 | refine zb4 ?_ GE198.out | refine zb4 ?_ GE199.out | refine zb4 ?_ GE200.out | refine zb4 ?_ GE201.out | refine zb4 ?_ GE223.out | refine zb4 ?_ GE240.out | refine zb4 ?_ GE254.out) | exact HB.out)) hb); clear HO214 HO217 HO220 HO231 HO234 HO237 HO245 HO248 HO251 BK198 BK199 BK200 BK201 BK223 BK240 BK254 HB; have HO214 := n0_; have HO217 := n1_; have HO220 := n2_; have HO231 := n3_; have HO234 := n4_; have HO237 := n5_; have HO245 := n6_; have HO248 := n7_; have HO251 := n8_; have HO259 := n9_; have HO262 := n10_; have HO265 := n11_; have BK198 := n12_; have BK199 := n13_; have BK200 := n14_; have BK201 := n15_; have BK223 := n16_; have BK240 := n17_; have BK254 := n18_; have HB := n19_; clear n0_ n1_ n2_ n3_ n4_ n5_ n6_ n7_ n8_ n9_ n10_ n11_ n12_ n13_ n14_ n15_ n16_ n17_ n18_ n19_; (try clear hb); (try clear hb2); (try clear hk); (try clear hi); (try clear ho0); (try clear ho1); (try clear ho2)) | ((with_reducible refine gate_dst (N := 18) rfl ?_); refine box_event ?hg (N := 18) ?hd (cs := #[.int .i64 0, .int .i64 0, .slice none 0 0, .slice none 0 0, .slice none 0 0, .bool false]) (t := 29) ?hr ?_; (case hd => rfl); (case hg => rfl); (case hr => first | (go_simp; done) | (go_simp; rfl)); intro gb268 hg w67 hbox hb; have n0_ := zm (Kd.V_below (Kd.V_elderB (by (with_reducible repeat first | apply ze1 | apply ze2 | apply ze3); exact HO214.out) gb268 (Nat.le_of_eq hg.symm)) hb); have n1_ := zm (Kd.V_below (Kd.V_elderB (by (with_reducible repeat first | apply ze1 | apply ze2 | apply ze3); exact HO217.out) gb268 (Nat.le_of_eq hg.symm)) hb); have n2_ := zm (Kd.V_below (Kd.V_elderB (by (with_reducible repeat first | apply ze1 | apply ze2 | apply ze3); exact HO220.out) gb268 (Nat.le_of_eq hg.symm)) hb); have n3_ := zm (Kd.V_below (Kd.V_elderB (by (with_reducible repeat first | apply ze1 | apply ze2 | apply ze3); exact HO231.out) gb268 (Nat.le_of_eq hg.symm)) hb); have n4_ := zm (Kd.V_below (Kd.V_elderB (by (with_reducible repeat first | apply ze1 | apply ze2 | apply ze3); exact HO234.out) gb268 (Nat.le_of_eq hg.symm)) hb); have n5_ := zm (Kd.V_below (Kd.V_elderB (by (with_reducible repeat first | apply ze1 | apply ze2 | apply ze3); exact HO237.out) gb268 (Nat.le_of_eq hg.symm)) hb); have n6_ := zm (Kd.V_below (Kd.V_elderB (by (with_reducible repeat first | apply ze1 | apply ze2 | apply ze3); exact HO245.out) gb268 (Nat.le_of_eq hg.symm)) hb); have n7_ := zm (Kd.V_below (Kd.V_elderB (by (with_reducible repeat first | apply ze1 | apply ze2 | apply ze3); exact HO248.out) gb268 (Nat.le_of_eq hg.symm)) hb); have n8_ := zm (Kd.V_below (Kd.V_elderB (by (with_reducible repeat first | apply ze1 | apply ze2 | apply ze3); exact HO251.out) gb268 (Nat.le_of_eq hg.symm)) hb); have n9_ := zm (Kd.V_below (Kd.V_elderB (by (with_reducible repeat first | apply ze1 | apply ze2 | apply ze3); exact HO259.out) gb268 (Nat.le_of_eq hg.symm)) hb); have n10_ := zm (Kd.V_below (Kd.V_elderB (by (with_reducible repeat first | apply ze1 | apply ze2 | apply ze3); exact HO262.out) gb268 (Nat.le_of_eq hg.symm)) hb); have n11_ := zm (Kd.V_below (Kd.V_elderB (by (with_reducible repeat first | apply ze1 | apply ze2 | apply ze3); exact HO265.out) gb268 (Nat.le_of_eq hg.symm)) hb); have n12_ := zm (blk_below (g := gb198) (o := .cells #[.int .i64 a0_0, .int .i64 a0_1, .int .i64 a0_2, .int .i64 a0_3, .int .i64 a0_4, .slice A0_5 l0_5.length c0_5, .slice A0_6 l0_6.length c0_6, .slice A0_7 l0_7.length c0_7, .bool a0_8, .string a0_9, .int .i64 a0_10, .int .i64 a0_11, .int .i64 a0_12, .int .i64 a0_13, .int .i64 a0_14, .int .i64 a0_15, .int .i64 a0_16, .int .i64 a0_17, .slice A0_18 l0_18.length c0_18, .slice A0_19 l0_19.length c0_19, .slice A0_20 l0_20.length c0_20, .bool a0_21] 46 (0, 0)) (by (with_reducible repeat first | refine zk1 ?_ _ | refine zk2 ?_ | refine zk3 ?_ _); exact BK198.out) hb); have n13_ := zm (blk_below (g := gb199) (o := .cells #[.int .i64 a0_0, .int .i64 a0_1, .int .i64 a0_2, .int .i64 a0_3, .int .i64 a0_4, .slice A0_5 l0_5.length c0_5, .slice A0_6 l0_6.length c0_6, .slice A0_7 l0_7.length c0_7, .bool a0_8] 34 (0, 0)) (by (with_reducible repeat first | refine zk1 ?_ _ | refine zk2 ?_ | refine zk3 ?_ _); exact BK199.out) hb); have n14_ := zm (blk_below (g := gb200) (o := .cells #[.int .i64 a0_10, .int .i64 a0_11, .int .i64 a0_12] 23 (0, 0)) (by (with_reducible repeat first | refine zk1 ?_ _ | refine zk2 ?_ | refine zk3 ?_ _); exact BK200.out) hb); have n15_ := zm (blk_below (g := gb201) (o := .cells #[.int .i64 a0_13, .int .i64 a0_14, .int .i64 a0_15, .int .i64 a0_16, .int .i64 a0_17, .slice A0_18 l0_18.length c0_18, .slice A0_19 l0_19.length c0_19, .slice A0_20 l0_20.length c0_20, .bool a0_21] 34 (0, 0)) (by (with_reducible repeat first | refine zk1 ?_ _ | refine zk2 ?_ | refine zk3 ?_ _); exact BK201.out) hb); have n16_ := zm (blk_below (g := gb223) (o := .cells #[.int .i64 t207, .int .i64 t208, .int .i64 t209, .int .i64 t210, .int .i64 t211, .slice Ao38 t212.length co38, .slice Ao39 t215.length co39, .slice Ao40 t218.length co40, .bool t221] 34 (0, 0)) (by (with_reducible repeat first | refine zk1 ?_ _ | refine zk2 ?_ | refine zk3 ?_ _); exact BK223.out) hb); have n17_ := zm (blk_below (g := gb240) (o := .cells #[.int .i64 t224, .int .i64 t225, .int .i64 t226, .int .i64 t227, .int .i64 t228, .slice Ao49 t229.length co49, .slice Ao50 t232.length co50, .slice Ao51 t235.length co51, .bool t238] 34 (0, 0)) (by (with_reducible repeat first | refine zk1 ?_ _ | refine zk2 ?_ | refine zk3 ?_ _); exact BK240.out) hb); have n18_ := zm (blk_below (g := gb254) (o := .cells #[.int .i64 t241, .int .i64 t242, .slice Ao62 t243.length co62, .slice Ao63 t246.length co63, .slice Ao64 t249.length co64, .bool t252] 29 (0, 0)) (by (with_reducible repeat first | refine zk1 ?_ _ | refine zk2 ?_ | refine zk3 ?_ _); exact BK254.out) hb); have n19_ := zm (below_step (by repeat (first | (with_reducible first | exact HB.out | apply zb1 | apply zb2 | apply zb3 | refine zb4 ?_ GE198.out | refine zb4 ?_ GE199.out | refine zb4 ?_ GE200.out | refine zb4 ?_ GE201.out | refine zb4 ?_ GE223.out | refine zb4 ?_ GE240.out | refine zb4 ?_ GE254.out) | exact HB.out)) hb); have n20_ := zm (hbox); have n21_ := zm ((by rw [hg]; exact (below_size (by repeat (first | (with_reducible first | exact HB.out | apply zb1 | apply zb2 | apply zb3 | refine zb4 ?_ GE198.out | refine zb4 ?_ GE199.out | refine zb4 ?_ GE200.out | refine zb4 ?_ GE201.out | refine zb4 ?_ GE223.out | refine zb4 ?_ GE240.out | refine zb4 ?_ GE254.out) | exact HB.out))) : w.heap.size ≤ gb268)); have n22_ := zm ((by rw [hg]; exact (below_size (by repeat (first | (with_reducible first | exact HB.out | apply zb1 | apply zb2 | apply zb3 | refine zb4 ?_ GE198.out | refine zb4 ?_ GE199.out | refine zb4 ?_ GE200.out | refine zb4 ?_ GE201.out | refine zb4 ?_ GE223.out | refine zb4 ?_ GE240.out | refine zb4 ?_ GE254.out) | exact HB.out))) : w.heap.size ≤ gb268)); have n23_ := zm ((by rw [hg]; exact Nat.ne_of_lt (blk_lt (g := gb198) (by (with_reducible repeat first | refine zk1 ?_ _ | refine zk2 ?_ | refine zk3 ?_ _); exact BK198.out)) : gb198 ≠ gb268)); have n24_ := zm ((by rw [hg]; exact Nat.ne_of_gt (blk_lt (g := gb198) (by (with_reducible repeat first | refine zk1 ?_ _ | refine zk2 ?_ | refine zk3 ?_ _); exact BK198.out)) : gb268 ≠ gb198)); have n25_ := zm ((by rw [hg]; exact Nat.ne_of_lt (blk_lt (g := gb199) (by (with_reducible repeat first | refine zk1 ?_ _ | refine zk2 ?_ | refine zk3 ?_ _); exact BK199.out)) : gb199 ≠ gb268)); have n26_ := zm ((by rw [hg]; exact Nat.ne_of_gt (blk_lt (g := gb199) (by (with_reducible repeat first | refine zk1 ?_ _ | refine zk2 ?_ | refine zk3 ?_ _); exact BK199.out)) : gb268 ≠ gb199)); have n27_ := zm ((by rw [hg]; exact Nat.ne_of_lt (blk_lt (g := gb200) (by (with_reducible repeat first | refine zk1 ?_ _ | refine zk2 ?_ | refine zk3 ?_ _); exact BK200.out)) : gb200 ≠ gb268)); have n28_ := zm ((by rw [hg]; exact Nat.ne_of_gt (blk_lt (g := gb200) (by (with_reducible repeat first | refine zk1 ?_ _ | refine zk2 ?_ | refine zk3 ?_ _); exact BK200.out)) : gb268 ≠ gb200)); have n29_ := zm ((by rw [hg]; exact Nat.ne_of_lt (blk_lt (g := gb201) (by (with_reducible repeat first | refine zk1 ?_ _ | refine zk2 ?_ | refine zk3 ?_ _); exact BK201.out)) : gb201 ≠ gb268)); have n30_ := zm ((by rw [hg]; exact Nat.ne_of_gt (blk_lt (g := gb201) (by (with_reducible repeat first | refine zk1 ?_ _ | refine zk2 ?_ | refine zk3 ?_ _); exact BK201.out)) : gb268 ≠ gb201)); have n31_ := zm ((by rw [hg]; exact Nat.ne_of_lt (blk_lt (g := gb223) (by (with_reducible repeat first | refine zk1 ?_ _ | refine zk2 ?_ | refine zk3 ?_ _); exact BK223.out)) : gb223 ≠ gb268)); have n32_ := zm ((by rw [hg]; exact Nat.ne_of_gt (blk_lt (g := gb223) (by (with_reducible repeat first | refine zk1 ?_ _ | refine zk2 ?_ | refine zk3 ?_ _); exact BK223.out)) : gb268 ≠ gb223)); have n33_ := zm ((by rw [hg]; exact Nat.ne_of_lt (blk_lt (g := gb240) (by (with_reducible repeat first | refine zk1 ?_ _ | refine zk2 ?_ | refine zk3 ?_ _); exact BK240.out)) : gb240 ≠ gb268)); have n34_ := zm ((by rw [hg]; exact Nat.ne_of_gt (blk_lt (g := gb240) (by (with_reducible repeat first | refine zk1 ?_ _ | refine zk2 ?_ | refine zk3 ?_ _); exact BK240.out)) : gb268 ≠ gb240)); have n35_ := zm ((by rw [hg]; exact Nat.ne_of_lt (blk_lt (g := gb254) (by (with_reducible repeat first | refine zk1 ?_ _ | refine zk2 ?_ | refine zk3 ?_ _); exact BK254.out)) : gb254 ≠ gb268)); have n36_ := zm ((by rw [hg]; exact Nat.ne_of_gt (blk_lt (g := gb254) (by (with_reducible repeat first | refine zk1 ?_ _ | refine zk2 ?_ | refine zk3 ?_ _); exact BK254.out)) : gb268 ≠ gb254)); clear HO214 HO217 HO220 HO231 HO234 HO237 HO245 HO248 HO251 HO259 HO262 HO265 BK198 BK199 BK200 BK201 BK223 BK240 BK254 HB; have HO214 := n0_; have HO217 := n1_; have HO220 := n2_; have HO231 := n3_; have HO234 := n4_; have HO237 := n5_; have HO245 := n6_; have HO248 := n7_; have HO251 := n8_; have HO259 := n9_; have HO262 := n10_; have HO265 := n11_; have BK198 := n12_; have BK199 := n13_; have BK200 := n14_; have BK201 := n15_; have BK223 := n16_; have BK240 := n17_; have BK254 := n18_; have HB := n19_; have BK268 := n20_; have GW268 := n21_; have GE268 := n22_; have NB198_268 := n23_; have NB268_198 := n24_; have NB199_268 := n25_; have NB268_199 := n26_; have NB200_268 := n27_; have NB268_200 := n28_; have NB201_268 := n29_; have NB268_201 := n30_; have NB223_268 := n31_; have NB268_223 := n32_; have NB240_268 := n33_; have NB268_240 := n34_; have NB254_268 := n35_; have NB268_254 := n36_; clear n0_ n1_ n2_ n3_ n4_ n5_ n6_ n7_ n8_ n9_ n10_ n11_ n12_ n13_ n14_ n15_ n16_ n17_ n18_ n19_ n20_ n21_ n22_ n23_ n24_ n25_ n26_ n27_ n28_ n29_ n30_ n31_ n32_ n33_ n34_ n35_ n36_; clear hb hbox hg; have hnb68 := NB268_198.out; have hnc68 := NB198_268.out; have hnb69 := NB268_199.out; have hnc69 := NB199_268.out; have hnb70 := NB268_200.out; have hnc70 := NB200_268.out; have hnb71 := NB268_201.out; have hnc71 := NB201_268.out; have hnb72 := NB268_223.out; have hnc72 := NB223_268.out; have hnb73 := NB268_240.out; have hnc73 := NB240_268.out; have hnb74 := NB268_254.out; have hnc74 := NB254_268.out; have hcz75_0 : w67.cell? ⟨gb268, 0, none⟩ = some (.int .i64 0) := (blk_cell BK268.out 0).trans rfl; have hcz75_1 : w67.cell? ⟨gb268, 1, none⟩ = some (.int .i64 0) := (blk_cell BK268.out 1).trans rfl; have hcz75_2 : w67.cell? ⟨gb268, 2, none⟩ = some (.slice none 0 0) := (blk_cell BK268.out 2).trans rfl; have hcz75_3 : w67.cell? ⟨gb268, 3, none⟩ = some (.slice none 0 0) := (blk_cell BK268.out 3).trans rfl; have hcz75_4 : w67.cell? ⟨gb268, 4, none⟩ = some (.slice none 0 0) := (blk_cell BK268.out 4).trans rfl; have hcz75_5 : w67.cell? ⟨gb268, 5, none⟩ = some (.bool false) := (blk_cell BK268.out 5).trans rfl; have hfz75_0 := blk_frozen BK268.out 0; have hfz75_1 := blk_frozen BK268.out 1; have hfz75_2 := blk_frozen BK268.out 2; have hfz75_3 := blk_frozen BK268.out 3; have hfz75_4 := blk_frozen BK268.out 4; have hfz75_5 := blk_frozen BK268.out 5; obtain ⟨Ao76, co76, eo76⟩ := Kd.V_slice HO259.out; subst eo76; obtain ⟨Ao77, co77, eo77⟩ := Kd.V_slice HO262.out; subst eo77; obtain ⟨Ao78, co78, eo78⟩ := Kd.V_slice HO265.out; subst eo78))
  (try simp only [Act.put, List.setIfInBounds_toArray, List.set_cons_zero, List.set_cons_succ])
  go_cut [20] (fun v20 wc => ∃ (kq : Nat) (x20_8 : Bool), v20 = .bool x20_8 ∧ Aside0 (tallysticklaw14_CrcRecords.j0 kq a0_9 t202 t203 t204 t205 t206 t222 t239 t253 t267 x20_8 a0_0 a0_1 a0_2 a0_3 a0_4 l0_5 l0_6 l0_7 a0_8 a0_13 a0_14 a0_15 a0_16 a0_17 l0_18 l0_19 l0_20 a0_21 = some r) ∧ Aside0 (kq ≤ k) ∧ Aside0 (Kd.V (Kd.int .u64) 58 wc w.heap.size (fun k_ => k_ ≠ gb198 ∧ k_ ≠ gb199 ∧ k_ ≠ gb200 ∧ k_ ≠ gb201 ∧ k_ ≠ gb223 ∧ k_ ≠ gb240 ∧ k_ ≠ gb254 ∧ k_ ≠ gb268) (.slice Ao38 t212.length co38) t212) ∧ Aside0 (Kd.V (Kd.int .u64) 58 wc w.heap.size (fun k_ => k_ ≠ gb198 ∧ k_ ≠ gb199 ∧ k_ ≠ gb200 ∧ k_ ≠ gb201 ∧ k_ ≠ gb223 ∧ k_ ≠ gb240 ∧ k_ ≠ gb254 ∧ k_ ≠ gb268) (.slice Ao39 t215.length co39) t215) ∧ Aside0 (Kd.V (Kd.int .u64) 58 wc w.heap.size (fun k_ => k_ ≠ gb198 ∧ k_ ≠ gb199 ∧ k_ ≠ gb200 ∧ k_ ≠ gb201 ∧ k_ ≠ gb223 ∧ k_ ≠ gb240 ∧ k_ ≠ gb254 ∧ k_ ≠ gb268) (.slice Ao40 t218.length co40) t218) ∧ Aside0 (Kd.V (Kd.int .u64) 58 wc w.heap.size (fun k_ => k_ ≠ gb198 ∧ k_ ≠ gb199 ∧ k_ ≠ gb200 ∧ k_ ≠ gb201 ∧ k_ ≠ gb223 ∧ k_ ≠ gb240 ∧ k_ ≠ gb254 ∧ k_ ≠ gb268) (.slice Ao49 t229.length co49) t229) ∧ Aside0 (Kd.V (Kd.int .u64) 58 wc w.heap.size (fun k_ => k_ ≠ gb198 ∧ k_ ≠ gb199 ∧ k_ ≠ gb200 ∧ k_ ≠ gb201 ∧ k_ ≠ gb223 ∧ k_ ≠ gb240 ∧ k_ ≠ gb254 ∧ k_ ≠ gb268) (.slice Ao50 t232.length co50) t232) ∧ Aside0 (Kd.V (Kd.int .u64) 58 wc w.heap.size (fun k_ => k_ ≠ gb198 ∧ k_ ≠ gb199 ∧ k_ ≠ gb200 ∧ k_ ≠ gb201 ∧ k_ ≠ gb223 ∧ k_ ≠ gb240 ∧ k_ ≠ gb254 ∧ k_ ≠ gb268) (.slice Ao51 t235.length co51) t235) ∧ Aside0 (Kd.V (Kd.int .u64) 58 wc w.heap.size (fun k_ => k_ ≠ gb198 ∧ k_ ≠ gb199 ∧ k_ ≠ gb200 ∧ k_ ≠ gb201 ∧ k_ ≠ gb223 ∧ k_ ≠ gb240 ∧ k_ ≠ gb254 ∧ k_ ≠ gb268) (.slice Ao62 t243.length co62) t243) ∧ Aside0 (Kd.V (Kd.int .u64) 58 wc w.heap.size (fun k_ => k_ ≠ gb198 ∧ k_ ≠ gb199 ∧ k_ ≠ gb200 ∧ k_ ≠ gb201 ∧ k_ ≠ gb223 ∧ k_ ≠ gb240 ∧ k_ ≠ gb254 ∧ k_ ≠ gb268) (.slice Ao63 t246.length co63) t246) ∧ Aside0 (Kd.V (Kd.int .u64) 58 wc w.heap.size (fun k_ => k_ ≠ gb198 ∧ k_ ≠ gb199 ∧ k_ ≠ gb200 ∧ k_ ≠ gb201 ∧ k_ ≠ gb223 ∧ k_ ≠ gb240 ∧ k_ ≠ gb254 ∧ k_ ≠ gb268) (.slice Ao64 t249.length co64) t249) ∧ Aside0 (Kd.V (Kd.int .u64) 58 wc w.heap.size (fun k_ => k_ ≠ gb198 ∧ k_ ≠ gb199 ∧ k_ ≠ gb200 ∧ k_ ≠ gb201 ∧ k_ ≠ gb223 ∧ k_ ≠ gb240 ∧ k_ ≠ gb254 ∧ k_ ≠ gb268) (.slice Ao76 t257.length co76) t257) ∧ Aside0 (Kd.V (Kd.int .u64) 58 wc w.heap.size (fun k_ => k_ ≠ gb198 ∧ k_ ≠ gb199 ∧ k_ ≠ gb200 ∧ k_ ≠ gb201 ∧ k_ ≠ gb223 ∧ k_ ≠ gb240 ∧ k_ ≠ gb254 ∧ k_ ≠ gb268) (.slice Ao77 t260.length co77) t260) ∧ Aside0 (Kd.V (Kd.int .u64) 58 wc w.heap.size (fun k_ => k_ ≠ gb198 ∧ k_ ≠ gb199 ∧ k_ ≠ gb200 ∧ k_ ≠ gb201 ∧ k_ ≠ gb223 ∧ k_ ≠ gb240 ∧ k_ ≠ gb254 ∧ k_ ≠ gb268) (.slice Ao78 t263.length co78) t263) ∧ Aside0 (wc.heap[gb198]? = some (.cells #[.int .i64 a0_0, .int .i64 a0_1, .int .i64 a0_2, .int .i64 a0_3, .int .i64 a0_4, (.slice A0_5 l0_5.length c0_5), (.slice A0_6 l0_6.length c0_6), (.slice A0_7 l0_7.length c0_7), .bool a0_8, .string a0_9, .int .i64 a0_10, .int .i64 a0_11, .int .i64 a0_12, .int .i64 a0_13, .int .i64 a0_14, .int .i64 a0_15, .int .i64 a0_16, .int .i64 a0_17, (.slice A0_18 l0_18.length c0_18), (.slice A0_19 l0_19.length c0_19), (.slice A0_20 l0_20.length c0_20), .bool a0_21] 46 (0, 0))) ∧ Aside0 (wc.heap[gb199]? = some (.cells #[.int .i64 a0_0, .int .i64 a0_1, .int .i64 a0_2, .int .i64 a0_3, .int .i64 a0_4, (.slice A0_5 l0_5.length c0_5), (.slice A0_6 l0_6.length c0_6), (.slice A0_7 l0_7.length c0_7), .bool a0_8] 34 (0, 0))) ∧ Aside0 (wc.heap[gb200]? = some (.cells #[.int .i64 a0_10, .int .i64 a0_11, .int .i64 a0_12] 23 (0, 0))) ∧ Aside0 (wc.heap[gb201]? = some (.cells #[.int .i64 a0_13, .int .i64 a0_14, .int .i64 a0_15, .int .i64 a0_16, .int .i64 a0_17, (.slice A0_18 l0_18.length c0_18), (.slice A0_19 l0_19.length c0_19), (.slice A0_20 l0_20.length c0_20), .bool a0_21] 34 (0, 0))) ∧ Aside0 (wc.heap[gb223]? = some (.cells #[.int .i64 t207, .int .i64 t208, .int .i64 t209, .int .i64 t210, .int .i64 t211, (.slice Ao38 t212.length co38), (.slice Ao39 t215.length co39), (.slice Ao40 t218.length co40), .bool t221] 34 (0, 0))) ∧ Aside0 (wc.heap[gb240]? = some (.cells #[.int .i64 t224, .int .i64 t225, .int .i64 t226, .int .i64 t227, .int .i64 t228, (.slice Ao49 t229.length co49), (.slice Ao50 t232.length co50), (.slice Ao51 t235.length co51), .bool t238] 34 (0, 0))) ∧ Aside0 (wc.heap[gb254]? = some (.cells #[.int .i64 t241, .int .i64 t242, (.slice Ao62 t243.length co62), (.slice Ao63 t246.length co63), (.slice Ao64 t249.length co64), .bool t252] 29 (0, 0))) ∧ Aside0 (wc.heap[gb268]? = some (.cells #[.int .i64 t255, .int .i64 t256, (.slice Ao76 t257.length co76), (.slice Ao77 t260.length co77), (.slice Ao78 t263.length co78), .bool t266] 29 (0, 0))) ∧ Aside0 (Below w.heap.size w wc))
  case first =>
    have H := HC9.out
    clear HC9
    replace H := Option.bind_eq_some_iff.mp H
    obtain ⟨t269, A790, H⟩ := H
    replace H : (if t269 = true then ((tallystickref14_SamePart.f k t241 t242 t243 t246 t249 t252 t255 t256 t257 t260 t263 t266).bind fun t270 => (tallysticklaw14_CrcRecords.j0 k a0_9 t202 t203 t204 t205 t206 t222 t239 t253 t267 t270 a0_0 a0_1 a0_2 a0_3 a0_4 l0_5 l0_6 l0_7 a0_8 a0_13 a0_14 a0_15 a0_16 a0_17 l0_18 l0_19 l0_20 a0_21)) else (tallysticklaw14_CrcRecords.j0 k a0_9 t202 t203 t204 t205 t206 t222 t239 t253 t267 false a0_0 a0_1 a0_2 a0_3 a0_4 l0_5 l0_6 l0_7 a0_8 a0_13 a0_14 a0_15 a0_16 a0_17 l0_18 l0_19 l0_20 a0_21)) = some r := H
    have A79 := zm A790
    clear A790
    by_cases c80 : t269 = true
    · subst c80
      have H1 : ((tallystickref14_SamePart.f k t241 t242 t243 t246 t249 t252 t255 t256 t257 t260 t263 t266).bind fun t270 => (tallysticklaw14_CrcRecords.j0 k a0_9 t202 t203 t204 t205 t206 t222 t239 t253 t267 t270 a0_0 a0_1 a0_2 a0_3 a0_4 l0_5 l0_6 l0_7 a0_8 a0_13 a0_14 a0_15 a0_16 a0_17 l0_18 l0_19 l0_20 a0_21)) = some r := by rw [if_pos rfl] at H; exact H
      clear H
      have H := H1
      clear H1
      replace H := Option.bind_eq_some_iff.mp H
      obtain ⟨t270, A810, H⟩ := H
      replace H : (tallysticklaw14_CrcRecords.j0 k a0_9 t202 t203 t204 t205 t206 t222 t239 t253 t267 t270 a0_0 a0_1 a0_2 a0_3 a0_4 l0_5 l0_6 l0_7 a0_8 a0_13 a0_14 a0_15 a0_16 a0_17 l0_18 l0_19 l0_20 a0_21) = some r := H
      have A81 := zm A810
      clear A810
      have H' := zm H
      clear H
      have hnb82 := NB223_198.out
      have hnc82 := NB198_223.out
      have hnb83 := NB223_199.out
      have hnc83 := NB199_223.out
      have hnb84 := NB223_200.out
      have hnc84 := NB200_223.out
      have hnb85 := NB223_201.out
      have hnc85 := NB201_223.out
      have hnb86 := NB223_240.out
      have hnc86 := NB240_223.out
      have hnb87 := NB223_254.out
      have hnc87 := NB254_223.out
      have hnb88 := NB223_268.out
      have hnc88 := NB268_223.out
      have hcz89_0 : w67.cell? ⟨gb223, 0, none⟩ = some (.int .i64 t207) := (blk_cell BK223.out 0).trans rfl
      have hcz89_1 : w67.cell? ⟨gb223, 1, none⟩ = some (.int .i64 t208) := (blk_cell BK223.out 1).trans rfl
      have hcz89_2 : w67.cell? ⟨gb223, 2, none⟩ = some (.int .i64 t209) := (blk_cell BK223.out 2).trans rfl
      have hcz89_3 : w67.cell? ⟨gb223, 3, none⟩ = some (.int .i64 t210) := (blk_cell BK223.out 3).trans rfl
      have hcz89_4 : w67.cell? ⟨gb223, 4, none⟩ = some (.int .i64 t211) := (blk_cell BK223.out 4).trans rfl
      have hcz89_5 : w67.cell? ⟨gb223, 5, none⟩ = some (.slice Ao38 t212.length co38) := (blk_cell BK223.out 5).trans rfl
      have hcz89_6 : w67.cell? ⟨gb223, 6, none⟩ = some (.slice Ao39 t215.length co39) := (blk_cell BK223.out 6).trans rfl
      have hcz89_7 : w67.cell? ⟨gb223, 7, none⟩ = some (.slice Ao40 t218.length co40) := (blk_cell BK223.out 7).trans rfl
      have hcz89_8 : w67.cell? ⟨gb223, 8, none⟩ = some (.bool t221) := (blk_cell BK223.out 8).trans rfl
      have hfz89_0 := blk_frozen BK223.out 0
      have hfz89_1 := blk_frozen BK223.out 1
      have hfz89_2 := blk_frozen BK223.out 2
      have hfz89_3 := blk_frozen BK223.out 3
      have hfz89_4 := blk_frozen BK223.out 4
      have hfz89_5 := blk_frozen BK223.out 5
      have hfz89_6 := blk_frozen BK223.out 6
      have hfz89_7 := blk_frozen BK223.out 7
      have hfz89_8 := blk_frozen BK223.out 8
      have hnb90 := NB240_198.out
      have hnc90 := NB198_240.out
      have hnb91 := NB240_199.out
      have hnc91 := NB199_240.out
      have hnb92 := NB240_200.out
      have hnc92 := NB200_240.out
      have hnb93 := NB240_201.out
      have hnc93 := NB201_240.out
      have hnb94 := NB240_254.out
      have hnc94 := NB254_240.out
      have hnb95 := NB240_268.out
      have hnc95 := NB268_240.out
      have hcz96_0 : w67.cell? ⟨gb240, 0, none⟩ = some (.int .i64 t224) := (blk_cell BK240.out 0).trans rfl
      have hcz96_1 : w67.cell? ⟨gb240, 1, none⟩ = some (.int .i64 t225) := (blk_cell BK240.out 1).trans rfl
      have hcz96_2 : w67.cell? ⟨gb240, 2, none⟩ = some (.int .i64 t226) := (blk_cell BK240.out 2).trans rfl
      have hcz96_3 : w67.cell? ⟨gb240, 3, none⟩ = some (.int .i64 t227) := (blk_cell BK240.out 3).trans rfl
      have hcz96_4 : w67.cell? ⟨gb240, 4, none⟩ = some (.int .i64 t228) := (blk_cell BK240.out 4).trans rfl
      have hcz96_5 : w67.cell? ⟨gb240, 5, none⟩ = some (.slice Ao49 t229.length co49) := (blk_cell BK240.out 5).trans rfl
      have hcz96_6 : w67.cell? ⟨gb240, 6, none⟩ = some (.slice Ao50 t232.length co50) := (blk_cell BK240.out 6).trans rfl
      have hcz96_7 : w67.cell? ⟨gb240, 7, none⟩ = some (.slice Ao51 t235.length co51) := (blk_cell BK240.out 7).trans rfl
      have hcz96_8 : w67.cell? ⟨gb240, 8, none⟩ = some (.bool t238) := (blk_cell BK240.out 8).trans rfl
      have hfz96_0 := blk_frozen BK240.out 0
      have hfz96_1 := blk_frozen BK240.out 1
      have hfz96_2 := blk_frozen BK240.out 2
      have hfz96_3 := blk_frozen BK240.out 3
      have hfz96_4 := blk_frozen BK240.out 4
      have hfz96_5 := blk_frozen BK240.out 5
      have hfz96_6 := blk_frozen BK240.out 6
      have hfz96_7 := blk_frozen BK240.out 7
      have hfz96_8 := blk_frozen BK240.out 8
      go_wp2_with (first | ((with_reducible refine gate_callee (f := 16) rfl ?_); refine goesL_ (some 64) rfl rfl Tryd.func16 (by kernel_rfl) rfl #[.agg #[.int .i64 t207, .int .i64 t208, .int .i64 t209, .int .i64 t210, .int .i64 t211, .slice Ao38 t212.length co38, .slice Ao39 t215.length co39, .slice Ao40 t218.length co40, .bool t221], .agg #[.int .i64 t224, .int .i64 t225, .int .i64 t226, .int .i64 t227, .int .i64 t228, .slice Ao49 t229.length co49, .slice Ao50 t232.length co50, .slice Ao51 t235.length co51, .bool t238]] rfl (by (try simp only [List.map_toArray, List.map_cons, List.map_nil]); first | done | rfl | (simp only [List.length_drop, List.length_take]; rfl)) ?_; (with_reducible refine (tallystickref14_Same.calls k t207 t208 t209 t210 t211 _ _ t212 _ _ t215 _ _ t218 t221 t224 t225 t226 t227 t228 _ _ t229 _ _ t232 _ _ t235 t238 true _ ?side1 ?side2 ?side3 ?side4 ?side5 ?side6 ?side7 ?side8 ?side9 ?side10 ?side11 ?side12 A79.out).mono ?_); (case side1 => refine (Kd.V_reads' (e := 58) (base := w.heap.size) (ok := fun k_ => (((((k_ ≠ gb198 ∧ (k_ ≠ gb199 ∧ (k_ ≠ gb200 ∧ k_ ≠ gb201))) ∧ k_ ≠ gb223) ∧ k_ ≠ gb240) ∧ k_ ≠ gb254) ∧ k_ ≠ gb268)) (n := t212.length) (c := co38) ?_).2.2; exact (by (with_reducible repeat first | apply ze1 | apply ze2 | apply ze3); exact (vfar6 (g := gb268) HO214.out (fun k_ hk => hk.2) _ _ _ _ _ _))); (case side2 => exact (Kd.V_reads' HO214.out).2.1); (case side3 => refine (Kd.V_reads' (e := 58) (base := w.heap.size) (ok := fun k_ => (((((k_ ≠ gb198 ∧ (k_ ≠ gb199 ∧ (k_ ≠ gb200 ∧ k_ ≠ gb201))) ∧ k_ ≠ gb223) ∧ k_ ≠ gb240) ∧ k_ ≠ gb254) ∧ k_ ≠ gb268)) (n := t215.length) (c := co39) ?_).2.2; exact (by (with_reducible repeat first | apply ze1 | apply ze2 | apply ze3); exact (vfar6 (g := gb268) HO217.out (fun k_ hk => hk.2) _ _ _ _ _ _))); (case side4 => exact (Kd.V_reads' HO217.out).2.1); (case side5 => refine (Kd.V_reads' (e := 58) (base := w.heap.size) (ok := fun k_ => (((((k_ ≠ gb198 ∧ (k_ ≠ gb199 ∧ (k_ ≠ gb200 ∧ k_ ≠ gb201))) ∧ k_ ≠ gb223) ∧ k_ ≠ gb240) ∧ k_ ≠ gb254) ∧ k_ ≠ gb268)) (n := t218.length) (c := co40) ?_).2.2; exact (by (with_reducible repeat first | apply ze1 | apply ze2 | apply ze3); exact (vfar6 (g := gb268) HO220.out (fun k_ hk => hk.2) _ _ _ _ _ _))); (case side6 => exact (Kd.V_reads' HO220.out).2.1); (case side7 => refine (Kd.V_reads' (e := 58) (base := w.heap.size) (ok := fun k_ => ((((k_ ≠ gb198 ∧ (k_ ≠ gb199 ∧ (k_ ≠ gb200 ∧ (k_ ≠ gb201 ∧ k_ ≠ gb223)))) ∧ k_ ≠ gb240) ∧ k_ ≠ gb254) ∧ k_ ≠ gb268)) (n := t229.length) (c := co49) ?_).2.2; exact (by (with_reducible repeat first | apply ze1 | apply ze2 | apply ze3); exact (vfar6 (g := gb268) HO231.out (fun k_ hk => hk.2) _ _ _ _ _ _))); (case side8 => exact (Kd.V_reads' HO231.out).2.1); (case side9 => refine (Kd.V_reads' (e := 58) (base := w.heap.size) (ok := fun k_ => ((((k_ ≠ gb198 ∧ (k_ ≠ gb199 ∧ (k_ ≠ gb200 ∧ (k_ ≠ gb201 ∧ k_ ≠ gb223)))) ∧ k_ ≠ gb240) ∧ k_ ≠ gb254) ∧ k_ ≠ gb268)) (n := t232.length) (c := co50) ?_).2.2; exact (by (with_reducible repeat first | apply ze1 | apply ze2 | apply ze3); exact (vfar6 (g := gb268) HO234.out (fun k_ hk => hk.2) _ _ _ _ _ _))); (case side10 => exact (Kd.V_reads' HO234.out).2.1); (case side11 => refine (Kd.V_reads' (e := 58) (base := w.heap.size) (ok := fun k_ => ((((k_ ≠ gb198 ∧ (k_ ≠ gb199 ∧ (k_ ≠ gb200 ∧ (k_ ≠ gb201 ∧ k_ ≠ gb223)))) ∧ k_ ≠ gb240) ∧ k_ ≠ gb254) ∧ k_ ≠ gb268)) (n := t235.length) (c := co51) ?_).2.2; exact (by (with_reducible repeat first | apply ze1 | apply ze2 | apply ze3); exact (vfar6 (g := gb268) HO237.out (fun k_ hk => hk.2) _ _ _ _ _ _))); (case side12 => exact (Kd.V_reads' HO237.out).2.1); rintro e w97 ⟨rfl, hb⟩; clear A79; refine ⟨_, rfl, ?_⟩; have n0_ := zm (Kd.V_below (by (with_reducible repeat first | apply ze1 | apply ze2 | apply ze3); exact (vfar6 (g := gb268) HO214.out (fun k_ hk => hk.2) _ _ _ _ _ _)) hb); have n1_ := zm (Kd.V_below (by (with_reducible repeat first | apply ze1 | apply ze2 | apply ze3); exact (vfar6 (g := gb268) HO217.out (fun k_ hk => hk.2) _ _ _ _ _ _)) hb); have n2_ := zm (Kd.V_below (by (with_reducible repeat first | apply ze1 | apply ze2 | apply ze3); exact (vfar6 (g := gb268) HO220.out (fun k_ hk => hk.2) _ _ _ _ _ _)) hb); have n3_ := zm (Kd.V_below (by (with_reducible repeat first | apply ze1 | apply ze2 | apply ze3); exact (vfar6 (g := gb268) HO231.out (fun k_ hk => hk.2) _ _ _ _ _ _)) hb); have n4_ := zm (Kd.V_below (by (with_reducible repeat first | apply ze1 | apply ze2 | apply ze3); exact (vfar6 (g := gb268) HO234.out (fun k_ hk => hk.2) _ _ _ _ _ _)) hb); have n5_ := zm (Kd.V_below (by (with_reducible repeat first | apply ze1 | apply ze2 | apply ze3); exact (vfar6 (g := gb268) HO237.out (fun k_ hk => hk.2) _ _ _ _ _ _)) hb); have n6_ := zm (Kd.V_below (by (with_reducible repeat first | apply ze1 | apply ze2 | apply ze3); exact (vfar6 (g := gb268) HO245.out (fun k_ hk => hk.2) _ _ _ _ _ _)) hb); have n7_ := zm (Kd.V_below (by (with_reducible repeat first | apply ze1 | apply ze2 | apply ze3); exact (vfar6 (g := gb268) HO248.out (fun k_ hk => hk.2) _ _ _ _ _ _)) hb); have n8_ := zm (Kd.V_below (by (with_reducible repeat first | apply ze1 | apply ze2 | apply ze3); exact (vfar6 (g := gb268) HO251.out (fun k_ hk => hk.2) _ _ _ _ _ _)) hb); have n9_ := zm (Kd.V_below (by (with_reducible repeat first | apply ze1 | apply ze2 | apply ze3); exact (vfar6 (g := gb268) HO259.out (fun k_ hk => hk.2) _ _ _ _ _ _)) hb); have n10_ := zm (Kd.V_below (by (with_reducible repeat first | apply ze1 | apply ze2 | apply ze3); exact (vfar6 (g := gb268) HO262.out (fun k_ hk => hk.2) _ _ _ _ _ _)) hb); have n11_ := zm (Kd.V_below (by (with_reducible repeat first | apply ze1 | apply ze2 | apply ze3); exact (vfar6 (g := gb268) HO265.out (fun k_ hk => hk.2) _ _ _ _ _ _)) hb); have n12_ := zm (blk_below (g := gb198) (o := .cells #[.int .i64 a0_0, .int .i64 a0_1, .int .i64 a0_2, .int .i64 a0_3, .int .i64 a0_4, .slice A0_5 l0_5.length c0_5, .slice A0_6 l0_6.length c0_6, .slice A0_7 l0_7.length c0_7, .bool a0_8, .string a0_9, .int .i64 a0_10, .int .i64 a0_11, .int .i64 a0_12, .int .i64 a0_13, .int .i64 a0_14, .int .i64 a0_15, .int .i64 a0_16, .int .i64 a0_17, .slice A0_18 l0_18.length c0_18, .slice A0_19 l0_19.length c0_19, .slice A0_20 l0_20.length c0_20, .bool a0_21] 46 (0, 0)) (by (with_reducible repeat first | refine zk1 ?_ _ | refine zk2 ?_ | refine zk3 ?_ _); (iterate 6 refine blk_far ?_ NB198_268.out _); (with_reducible repeat first | refine zk1 ?_ _ | refine zk2 ?_ | refine zk3 ?_ _); exact BK198.out) hb); have n13_ := zm (blk_below (g := gb199) (o := .cells #[.int .i64 a0_0, .int .i64 a0_1, .int .i64 a0_2, .int .i64 a0_3, .int .i64 a0_4, .slice A0_5 l0_5.length c0_5, .slice A0_6 l0_6.length c0_6, .slice A0_7 l0_7.length c0_7, .bool a0_8] 34 (0, 0)) (by (with_reducible repeat first | refine zk1 ?_ _ | refine zk2 ?_ | refine zk3 ?_ _); (iterate 6 refine blk_far ?_ NB199_268.out _); (with_reducible repeat first | refine zk1 ?_ _ | refine zk2 ?_ | refine zk3 ?_ _); exact BK199.out) hb); have n14_ := zm (blk_below (g := gb200) (o := .cells #[.int .i64 a0_10, .int .i64 a0_11, .int .i64 a0_12] 23 (0, 0)) (by (with_reducible repeat first | refine zk1 ?_ _ | refine zk2 ?_ | refine zk3 ?_ _); (iterate 6 refine blk_far ?_ NB200_268.out _); (with_reducible repeat first | refine zk1 ?_ _ | refine zk2 ?_ | refine zk3 ?_ _); exact BK200.out) hb); have n15_ := zm (blk_below (g := gb201) (o := .cells #[.int .i64 a0_13, .int .i64 a0_14, .int .i64 a0_15, .int .i64 a0_16, .int .i64 a0_17, .slice A0_18 l0_18.length c0_18, .slice A0_19 l0_19.length c0_19, .slice A0_20 l0_20.length c0_20, .bool a0_21] 34 (0, 0)) (by (with_reducible repeat first | refine zk1 ?_ _ | refine zk2 ?_ | refine zk3 ?_ _); (iterate 6 refine blk_far ?_ NB201_268.out _); (with_reducible repeat first | refine zk1 ?_ _ | refine zk2 ?_ | refine zk3 ?_ _); exact BK201.out) hb); have n16_ := zm (blk_below (g := gb223) (o := .cells #[.int .i64 t207, .int .i64 t208, .int .i64 t209, .int .i64 t210, .int .i64 t211, .slice Ao38 t212.length co38, .slice Ao39 t215.length co39, .slice Ao40 t218.length co40, .bool t221] 34 (0, 0)) (by (with_reducible repeat first | refine zk1 ?_ _ | refine zk2 ?_ | refine zk3 ?_ _); (iterate 6 refine blk_far ?_ NB223_268.out _); (with_reducible repeat first | refine zk1 ?_ _ | refine zk2 ?_ | refine zk3 ?_ _); exact BK223.out) hb); have n17_ := zm (blk_below (g := gb240) (o := .cells #[.int .i64 t224, .int .i64 t225, .int .i64 t226, .int .i64 t227, .int .i64 t228, .slice Ao49 t229.length co49, .slice Ao50 t232.length co50, .slice Ao51 t235.length co51, .bool t238] 34 (0, 0)) (by (with_reducible repeat first | refine zk1 ?_ _ | refine zk2 ?_ | refine zk3 ?_ _); (iterate 6 refine blk_far ?_ NB240_268.out _); (with_reducible repeat first | refine zk1 ?_ _ | refine zk2 ?_ | refine zk3 ?_ _); exact BK240.out) hb); have n18_ := zm (blk_below (g := gb254) (o := .cells #[.int .i64 t241, .int .i64 t242, .slice Ao62 t243.length co62, .slice Ao63 t246.length co63, .slice Ao64 t249.length co64, .bool t252] 29 (0, 0)) (by (with_reducible repeat first | refine zk1 ?_ _ | refine zk2 ?_ | refine zk3 ?_ _); (iterate 6 refine blk_far ?_ NB254_268.out _); (with_reducible repeat first | refine zk1 ?_ _ | refine zk2 ?_ | refine zk3 ?_ _); exact BK254.out) hb); have n19_ := zm (blk_below (g := gb268) (o := .cells #[.int .i64 t255, .int .i64 t256, .slice Ao76 t257.length co76, .slice Ao77 t260.length co77, .slice Ao78 t263.length co78, .bool t266] 29 (0, 0)) (by (with_reducible repeat first | refine zk1 ?_ _ | refine zk2 ?_ | refine zk3 ?_ _); exact put6 (by (with_reducible repeat first | refine zk1 ?_ _ | refine zk2 ?_ | refine zk3 ?_ _); exact BK268.out) _ _ _ _ _ _) hb); have n20_ := zm (below_step (by repeat (first | (with_reducible first | exact HB.out | apply zb1 | apply zb2 | apply zb3 | refine zb4 ?_ GE198.out | refine zb4 ?_ GE199.out | refine zb4 ?_ GE200.out | refine zb4 ?_ GE201.out | refine zb4 ?_ GE223.out | refine zb4 ?_ GE240.out | refine zb4 ?_ GE254.out | refine zb4 ?_ GE268.out) | exact HB.out)) hb); clear HO214 HO217 HO220 HO231 HO234 HO237 HO245 HO248 HO251 HO259 HO262 HO265 BK198 BK199 BK200 BK201 BK223 BK240 BK254 BK268 HB; have HO214 := n0_; have HO217 := n1_; have HO220 := n2_; have HO231 := n3_; have HO234 := n4_; have HO237 := n5_; have HO245 := n6_; have HO248 := n7_; have HO251 := n8_; have HO259 := n9_; have HO262 := n10_; have HO265 := n11_; have BK198 := n12_; have BK199 := n13_; have BK200 := n14_; have BK201 := n15_; have BK223 := n16_; have BK240 := n17_; have BK254 := n18_; have BK268 := n19_; have HB := n20_; clear n0_ n1_ n2_ n3_ n4_ n5_ n6_ n7_ n8_ n9_ n10_ n11_ n12_ n13_ n14_ n15_ n16_ n17_ n18_ n19_ n20_; (try clear hb); (try clear hb2); (try clear hk); (try clear hi); have hnb98 := NB254_198.out; have hnc98 := NB198_254.out; have hnb99 := NB254_199.out; have hnc99 := NB199_254.out; have hnb100 := NB254_200.out; have hnc100 := NB200_254.out; have hnb101 := NB254_201.out; have hnc101 := NB201_254.out; have hnb102 := NB254_268.out; have hnc102 := NB268_254.out; have hcz103_0 : w97.cell? ⟨gb254, 0, none⟩ = some (.int .i64 t241) := (blk_cell BK254.out 0).trans rfl; have hcz103_1 : w97.cell? ⟨gb254, 1, none⟩ = some (.int .i64 t242) := (blk_cell BK254.out 1).trans rfl; have hcz103_2 : w97.cell? ⟨gb254, 2, none⟩ = some (.slice Ao62 t243.length co62) := (blk_cell BK254.out 2).trans rfl; have hcz103_3 : w97.cell? ⟨gb254, 3, none⟩ = some (.slice Ao63 t246.length co63) := (blk_cell BK254.out 3).trans rfl; have hcz103_4 : w97.cell? ⟨gb254, 4, none⟩ = some (.slice Ao64 t249.length co64) := (blk_cell BK254.out 4).trans rfl; have hcz103_5 : w97.cell? ⟨gb254, 5, none⟩ = some (.bool t252) := (blk_cell BK254.out 5).trans rfl; have hfz103_0 := blk_frozen BK254.out 0; have hfz103_1 := blk_frozen BK254.out 1; have hfz103_2 := blk_frozen BK254.out 2; have hfz103_3 := blk_frozen BK254.out 3; have hfz103_4 := blk_frozen BK254.out 4; have hfz103_5 := blk_frozen BK254.out 5; have hnb104 := NB268_198.out; have hnc104 := NB198_268.out; have hnb105 := NB268_199.out; have hnc105 := NB199_268.out; have hnb106 := NB268_200.out; have hnc106 := NB200_268.out; have hnb107 := NB268_201.out; have hnc107 := NB201_268.out; have hcz108_0 : w97.cell? ⟨gb268, 0, none⟩ = some (.int .i64 t255) := (blk_cell BK268.out 0).trans rfl; have hcz108_1 : w97.cell? ⟨gb268, 1, none⟩ = some (.int .i64 t256) := (blk_cell BK268.out 1).trans rfl; have hcz108_2 : w97.cell? ⟨gb268, 2, none⟩ = some (.slice Ao76 t257.length co76) := (blk_cell BK268.out 2).trans rfl; have hcz108_3 : w97.cell? ⟨gb268, 3, none⟩ = some (.slice Ao77 t260.length co77) := (blk_cell BK268.out 3).trans rfl; have hcz108_4 : w97.cell? ⟨gb268, 4, none⟩ = some (.slice Ao78 t263.length co78) := (blk_cell BK268.out 4).trans rfl; have hcz108_5 : w97.cell? ⟨gb268, 5, none⟩ = some (.bool t266) := (blk_cell BK268.out 5).trans rfl; have hfz108_0 := blk_frozen BK268.out 0; have hfz108_1 := blk_frozen BK268.out 1; have hfz108_2 := blk_frozen BK268.out 2; have hfz108_3 := blk_frozen BK268.out 3; have hfz108_4 := blk_frozen BK268.out 4; have hfz108_5 := blk_frozen BK268.out 5) | (go_at_call 17; (with_reducible refine (tallystickref14_SamePart.calls k t241 t242 _ _ t243 _ _ t246 _ _ t249 t252 t255 t256 _ _ t257 _ _ t260 _ _ t263 t266 t270 _ ?side1 ?side2 ?side3 ?side4 ?side5 ?side6 ?side7 ?side8 ?side9 ?side10 ?side11 ?side12 A81.out).mono ?_); (case side1 => repeat (first | exact (Kd.V_reads' HO245.out).2.2 | (with_reducible refine Kd.C_alloc ?_ _) | (with_reducible refine Kd.C_drewN ?_ _) | (with_reducible refine Kd.C_drew ?_))); (case side2 => exact (Kd.V_reads' HO245.out).2.1); (case side3 => repeat (first | exact (Kd.V_reads' HO248.out).2.2 | (with_reducible refine Kd.C_alloc ?_ _) | (with_reducible refine Kd.C_drewN ?_ _) | (with_reducible refine Kd.C_drew ?_))); (case side4 => exact (Kd.V_reads' HO248.out).2.1); (case side5 => repeat (first | exact (Kd.V_reads' HO251.out).2.2 | (with_reducible refine Kd.C_alloc ?_ _) | (with_reducible refine Kd.C_drewN ?_ _) | (with_reducible refine Kd.C_drew ?_))); (case side6 => exact (Kd.V_reads' HO251.out).2.1); (case side7 => repeat (first | exact (Kd.V_reads' HO259.out).2.2 | (with_reducible refine Kd.C_alloc ?_ _) | (with_reducible refine Kd.C_drewN ?_ _) | (with_reducible refine Kd.C_drew ?_))); (case side8 => exact (Kd.V_reads' HO259.out).2.1); (case side9 => repeat (first | exact (Kd.V_reads' HO262.out).2.2 | (with_reducible refine Kd.C_alloc ?_ _) | (with_reducible refine Kd.C_drewN ?_ _) | (with_reducible refine Kd.C_drew ?_))); (case side10 => exact (Kd.V_reads' HO262.out).2.1); (case side11 => repeat (first | exact (Kd.V_reads' HO265.out).2.2 | (with_reducible refine Kd.C_alloc ?_ _) | (with_reducible refine Kd.C_drewN ?_ _) | (with_reducible refine Kd.C_drew ?_))); (case side12 => exact (Kd.V_reads' HO265.out).2.1); rintro e w109 ⟨rfl, hb⟩; clear A81; have n0_ := zm (Kd.V_below (by (with_reducible repeat first | apply ze1 | apply ze2 | apply ze3); exact HO214.out) hb); have n1_ := zm (Kd.V_below (by (with_reducible repeat first | apply ze1 | apply ze2 | apply ze3); exact HO217.out) hb); have n2_ := zm (Kd.V_below (by (with_reducible repeat first | apply ze1 | apply ze2 | apply ze3); exact HO220.out) hb); have n3_ := zm (Kd.V_below (by (with_reducible repeat first | apply ze1 | apply ze2 | apply ze3); exact HO231.out) hb); have n4_ := zm (Kd.V_below (by (with_reducible repeat first | apply ze1 | apply ze2 | apply ze3); exact HO234.out) hb); have n5_ := zm (Kd.V_below (by (with_reducible repeat first | apply ze1 | apply ze2 | apply ze3); exact HO237.out) hb); have n6_ := zm (Kd.V_below (by (with_reducible repeat first | apply ze1 | apply ze2 | apply ze3); exact HO245.out) hb); have n7_ := zm (Kd.V_below (by (with_reducible repeat first | apply ze1 | apply ze2 | apply ze3); exact HO248.out) hb); have n8_ := zm (Kd.V_below (by (with_reducible repeat first | apply ze1 | apply ze2 | apply ze3); exact HO251.out) hb); have n9_ := zm (Kd.V_below (by (with_reducible repeat first | apply ze1 | apply ze2 | apply ze3); exact HO259.out) hb); have n10_ := zm (Kd.V_below (by (with_reducible repeat first | apply ze1 | apply ze2 | apply ze3); exact HO262.out) hb); have n11_ := zm (Kd.V_below (by (with_reducible repeat first | apply ze1 | apply ze2 | apply ze3); exact HO265.out) hb); have n12_ := zm (blk_below (g := gb198) (o := .cells #[.int .i64 a0_0, .int .i64 a0_1, .int .i64 a0_2, .int .i64 a0_3, .int .i64 a0_4, .slice A0_5 l0_5.length c0_5, .slice A0_6 l0_6.length c0_6, .slice A0_7 l0_7.length c0_7, .bool a0_8, .string a0_9, .int .i64 a0_10, .int .i64 a0_11, .int .i64 a0_12, .int .i64 a0_13, .int .i64 a0_14, .int .i64 a0_15, .int .i64 a0_16, .int .i64 a0_17, .slice A0_18 l0_18.length c0_18, .slice A0_19 l0_19.length c0_19, .slice A0_20 l0_20.length c0_20, .bool a0_21] 46 (0, 0)) (by (with_reducible repeat first | refine zk1 ?_ _ | refine zk2 ?_ | refine zk3 ?_ _); exact BK198.out) hb); have n13_ := zm (blk_below (g := gb199) (o := .cells #[.int .i64 a0_0, .int .i64 a0_1, .int .i64 a0_2, .int .i64 a0_3, .int .i64 a0_4, .slice A0_5 l0_5.length c0_5, .slice A0_6 l0_6.length c0_6, .slice A0_7 l0_7.length c0_7, .bool a0_8] 34 (0, 0)) (by (with_reducible repeat first | refine zk1 ?_ _ | refine zk2 ?_ | refine zk3 ?_ _); exact BK199.out) hb); have n14_ := zm (blk_below (g := gb200) (o := .cells #[.int .i64 a0_10, .int .i64 a0_11, .int .i64 a0_12] 23 (0, 0)) (by (with_reducible repeat first | refine zk1 ?_ _ | refine zk2 ?_ | refine zk3 ?_ _); exact BK200.out) hb); have n15_ := zm (blk_below (g := gb201) (o := .cells #[.int .i64 a0_13, .int .i64 a0_14, .int .i64 a0_15, .int .i64 a0_16, .int .i64 a0_17, .slice A0_18 l0_18.length c0_18, .slice A0_19 l0_19.length c0_19, .slice A0_20 l0_20.length c0_20, .bool a0_21] 34 (0, 0)) (by (with_reducible repeat first | refine zk1 ?_ _ | refine zk2 ?_ | refine zk3 ?_ _); exact BK201.out) hb); have n16_ := zm (blk_below (g := gb223) (o := .cells #[.int .i64 t207, .int .i64 t208, .int .i64 t209, .int .i64 t210, .int .i64 t211, .slice Ao38 t212.length co38, .slice Ao39 t215.length co39, .slice Ao40 t218.length co40, .bool t221] 34 (0, 0)) (by (with_reducible repeat first | refine zk1 ?_ _ | refine zk2 ?_ | refine zk3 ?_ _); exact BK223.out) hb); have n17_ := zm (blk_below (g := gb240) (o := .cells #[.int .i64 t224, .int .i64 t225, .int .i64 t226, .int .i64 t227, .int .i64 t228, .slice Ao49 t229.length co49, .slice Ao50 t232.length co50, .slice Ao51 t235.length co51, .bool t238] 34 (0, 0)) (by (with_reducible repeat first | refine zk1 ?_ _ | refine zk2 ?_ | refine zk3 ?_ _); exact BK240.out) hb); have n18_ := zm (blk_below (g := gb254) (o := .cells #[.int .i64 t241, .int .i64 t242, .slice Ao62 t243.length co62, .slice Ao63 t246.length co63, .slice Ao64 t249.length co64, .bool t252] 29 (0, 0)) (by (with_reducible repeat first | refine zk1 ?_ _ | refine zk2 ?_ | refine zk3 ?_ _); exact BK254.out) hb); have n19_ := zm (blk_below (g := gb268) (o := .cells #[.int .i64 t255, .int .i64 t256, .slice Ao76 t257.length co76, .slice Ao77 t260.length co77, .slice Ao78 t263.length co78, .bool t266] 29 (0, 0)) (by (with_reducible repeat first | refine zk1 ?_ _ | refine zk2 ?_ | refine zk3 ?_ _); exact BK268.out) hb); have n20_ := zm (below_step (by repeat (first | (with_reducible first | exact HB.out | apply zb1 | apply zb2 | apply zb3 | refine zb4 ?_ GE198.out | refine zb4 ?_ GE199.out | refine zb4 ?_ GE200.out | refine zb4 ?_ GE201.out | refine zb4 ?_ GE223.out | refine zb4 ?_ GE240.out | refine zb4 ?_ GE254.out | refine zb4 ?_ GE268.out) | exact HB.out)) hb); clear HO214 HO217 HO220 HO231 HO234 HO237 HO245 HO248 HO251 HO259 HO262 HO265 BK198 BK199 BK200 BK201 BK223 BK240 BK254 BK268 HB; have HO214 := n0_; have HO217 := n1_; have HO220 := n2_; have HO231 := n3_; have HO234 := n4_; have HO237 := n5_; have HO245 := n6_; have HO248 := n7_; have HO251 := n8_; have HO259 := n9_; have HO262 := n10_; have HO265 := n11_; have BK198 := n12_; have BK199 := n13_; have BK200 := n14_; have BK201 := n15_; have BK223 := n16_; have BK240 := n17_; have BK254 := n18_; have BK268 := n19_; have HB := n20_; clear n0_ n1_ n2_ n3_ n4_ n5_ n6_ n7_ n8_ n9_ n10_ n11_ n12_ n13_ n14_ n15_ n16_ n17_ n18_ n19_ n20_; (try clear hb); (try clear hb2); (try clear hk); (try clear hi)))
      go_meet
      case rel => exact ⟨_, (t270), (by first | rfl | (simp; done) | (simp [*]; done)), H', ⟨by first | omega | exact Nat.le_refl _⟩, ⟨by (with_reducible repeat first | apply ze1 | apply ze2 | apply ze3); exact Kd.V_mono HO214.out (fun _ hk => ⟨hk.1.1.1.1.1, ⟨hk.1.1.1.1.2.1, ⟨hk.1.1.1.1.2.2.1, ⟨hk.1.1.1.1.2.2.2, ⟨hk.1.1.1.2, ⟨hk.1.1.2, ⟨hk.1.2, hk.2⟩⟩⟩⟩⟩⟩⟩)⟩, ⟨by (with_reducible repeat first | apply ze1 | apply ze2 | apply ze3); exact Kd.V_mono HO217.out (fun _ hk => ⟨hk.1.1.1.1.1, ⟨hk.1.1.1.1.2.1, ⟨hk.1.1.1.1.2.2.1, ⟨hk.1.1.1.1.2.2.2, ⟨hk.1.1.1.2, ⟨hk.1.1.2, ⟨hk.1.2, hk.2⟩⟩⟩⟩⟩⟩⟩)⟩, ⟨by (with_reducible repeat first | apply ze1 | apply ze2 | apply ze3); exact Kd.V_mono HO220.out (fun _ hk => ⟨hk.1.1.1.1.1, ⟨hk.1.1.1.1.2.1, ⟨hk.1.1.1.1.2.2.1, ⟨hk.1.1.1.1.2.2.2, ⟨hk.1.1.1.2, ⟨hk.1.1.2, ⟨hk.1.2, hk.2⟩⟩⟩⟩⟩⟩⟩)⟩, ⟨by (with_reducible repeat first | apply ze1 | apply ze2 | apply ze3); exact Kd.V_mono HO231.out (fun _ hk => ⟨hk.1.1.1.1, ⟨hk.1.1.1.2.1, ⟨hk.1.1.1.2.2.1, ⟨hk.1.1.1.2.2.2.1, ⟨hk.1.1.1.2.2.2.2, ⟨hk.1.1.2, ⟨hk.1.2, hk.2⟩⟩⟩⟩⟩⟩⟩)⟩, ⟨by (with_reducible repeat first | apply ze1 | apply ze2 | apply ze3); exact Kd.V_mono HO234.out (fun _ hk => ⟨hk.1.1.1.1, ⟨hk.1.1.1.2.1, ⟨hk.1.1.1.2.2.1, ⟨hk.1.1.1.2.2.2.1, ⟨hk.1.1.1.2.2.2.2, ⟨hk.1.1.2, ⟨hk.1.2, hk.2⟩⟩⟩⟩⟩⟩⟩)⟩, ⟨by (with_reducible repeat first | apply ze1 | apply ze2 | apply ze3); exact Kd.V_mono HO237.out (fun _ hk => ⟨hk.1.1.1.1, ⟨hk.1.1.1.2.1, ⟨hk.1.1.1.2.2.1, ⟨hk.1.1.1.2.2.2.1, ⟨hk.1.1.1.2.2.2.2, ⟨hk.1.1.2, ⟨hk.1.2, hk.2⟩⟩⟩⟩⟩⟩⟩)⟩, ⟨by (with_reducible repeat first | apply ze1 | apply ze2 | apply ze3); exact Kd.V_mono HO245.out (fun _ hk => ⟨hk.1.1.1, ⟨hk.1.1.2.1, ⟨hk.1.1.2.2.1, ⟨hk.1.1.2.2.2.1, ⟨hk.1.1.2.2.2.2.1, ⟨hk.1.1.2.2.2.2.2, ⟨hk.1.2, hk.2⟩⟩⟩⟩⟩⟩⟩)⟩, ⟨by (with_reducible repeat first | apply ze1 | apply ze2 | apply ze3); exact Kd.V_mono HO248.out (fun _ hk => ⟨hk.1.1.1, ⟨hk.1.1.2.1, ⟨hk.1.1.2.2.1, ⟨hk.1.1.2.2.2.1, ⟨hk.1.1.2.2.2.2.1, ⟨hk.1.1.2.2.2.2.2, ⟨hk.1.2, hk.2⟩⟩⟩⟩⟩⟩⟩)⟩, ⟨by (with_reducible repeat first | apply ze1 | apply ze2 | apply ze3); exact Kd.V_mono HO251.out (fun _ hk => ⟨hk.1.1.1, ⟨hk.1.1.2.1, ⟨hk.1.1.2.2.1, ⟨hk.1.1.2.2.2.1, ⟨hk.1.1.2.2.2.2.1, ⟨hk.1.1.2.2.2.2.2, ⟨hk.1.2, hk.2⟩⟩⟩⟩⟩⟩⟩)⟩, ⟨by (with_reducible repeat first | apply ze1 | apply ze2 | apply ze3); exact Kd.V_mono HO259.out (fun _ hk => ⟨hk.1.1, ⟨hk.1.2.1, ⟨hk.1.2.2.1, ⟨hk.1.2.2.2.1, ⟨hk.1.2.2.2.2.1, ⟨hk.1.2.2.2.2.2.1, ⟨hk.1.2.2.2.2.2.2, hk.2⟩⟩⟩⟩⟩⟩⟩)⟩, ⟨by (with_reducible repeat first | apply ze1 | apply ze2 | apply ze3); exact Kd.V_mono HO262.out (fun _ hk => ⟨hk.1.1, ⟨hk.1.2.1, ⟨hk.1.2.2.1, ⟨hk.1.2.2.2.1, ⟨hk.1.2.2.2.2.1, ⟨hk.1.2.2.2.2.2.1, ⟨hk.1.2.2.2.2.2.2, hk.2⟩⟩⟩⟩⟩⟩⟩)⟩, ⟨by (with_reducible repeat first | apply ze1 | apply ze2 | apply ze3); exact Kd.V_mono HO265.out (fun _ hk => ⟨hk.1.1, ⟨hk.1.2.1, ⟨hk.1.2.2.1, ⟨hk.1.2.2.2.1, ⟨hk.1.2.2.2.2.1, ⟨hk.1.2.2.2.2.2.1, ⟨hk.1.2.2.2.2.2.2, hk.2⟩⟩⟩⟩⟩⟩⟩)⟩, ⟨by (with_reducible repeat first | refine zk1 ?_ _ | refine zk2 ?_ | refine zk3 ?_ _); exact BK198.out⟩, ⟨by (with_reducible repeat first | refine zk1 ?_ _ | refine zk2 ?_ | refine zk3 ?_ _); exact BK199.out⟩, ⟨by (with_reducible repeat first | refine zk1 ?_ _ | refine zk2 ?_ | refine zk3 ?_ _); exact BK200.out⟩, ⟨by (with_reducible repeat first | refine zk1 ?_ _ | refine zk2 ?_ | refine zk3 ?_ _); exact BK201.out⟩, ⟨by (with_reducible repeat first | refine zk1 ?_ _ | refine zk2 ?_ | refine zk3 ?_ _); exact BK223.out⟩, ⟨by (with_reducible repeat first | refine zk1 ?_ _ | refine zk2 ?_ | refine zk3 ?_ _); exact BK240.out⟩, ⟨by (with_reducible repeat first | refine zk1 ?_ _ | refine zk2 ?_ | refine zk3 ?_ _); exact BK254.out⟩, ⟨by (with_reducible repeat first | refine zk1 ?_ _ | refine zk2 ?_ | refine zk3 ?_ _); exact BK268.out⟩, ⟨by repeat (first | (with_reducible first | exact HB.out | apply zb1 | apply zb2 | apply zb3 | refine zb4 ?_ GE198.out | refine zb4 ?_ GE199.out | refine zb4 ?_ GE200.out | refine zb4 ?_ GE201.out | refine zb4 ?_ GE223.out | refine zb4 ?_ GE240.out | refine zb4 ?_ GE254.out | refine zb4 ?_ GE268.out) | exact HB.out)⟩⟩
    · replace c80 := Bool.eq_false_iff.mpr c80
      subst c80
      have H1 : (tallysticklaw14_CrcRecords.j0 k a0_9 t202 t203 t204 t205 t206 t222 t239 t253 t267 false a0_0 a0_1 a0_2 a0_3 a0_4 l0_5 l0_6 l0_7 a0_8 a0_13 a0_14 a0_15 a0_16 a0_17 l0_18 l0_19 l0_20 a0_21) = some r := by rw [if_neg (show ¬ (false = true) by decide)] at H; exact H
      clear H
      have H := H1
      clear H1
      have H' := zm H
      clear H
      have hnb110 := NB223_198.out
      have hnc110 := NB198_223.out
      have hnb111 := NB223_199.out
      have hnc111 := NB199_223.out
      have hnb112 := NB223_200.out
      have hnc112 := NB200_223.out
      have hnb113 := NB223_201.out
      have hnc113 := NB201_223.out
      have hnb114 := NB223_240.out
      have hnc114 := NB240_223.out
      have hnb115 := NB223_254.out
      have hnc115 := NB254_223.out
      have hnb116 := NB223_268.out
      have hnc116 := NB268_223.out
      have hcz117_0 : w67.cell? ⟨gb223, 0, none⟩ = some (.int .i64 t207) := (blk_cell BK223.out 0).trans rfl
      have hcz117_1 : w67.cell? ⟨gb223, 1, none⟩ = some (.int .i64 t208) := (blk_cell BK223.out 1).trans rfl
      have hcz117_2 : w67.cell? ⟨gb223, 2, none⟩ = some (.int .i64 t209) := (blk_cell BK223.out 2).trans rfl
      have hcz117_3 : w67.cell? ⟨gb223, 3, none⟩ = some (.int .i64 t210) := (blk_cell BK223.out 3).trans rfl
      have hcz117_4 : w67.cell? ⟨gb223, 4, none⟩ = some (.int .i64 t211) := (blk_cell BK223.out 4).trans rfl
      have hcz117_5 : w67.cell? ⟨gb223, 5, none⟩ = some (.slice Ao38 t212.length co38) := (blk_cell BK223.out 5).trans rfl
      have hcz117_6 : w67.cell? ⟨gb223, 6, none⟩ = some (.slice Ao39 t215.length co39) := (blk_cell BK223.out 6).trans rfl
      have hcz117_7 : w67.cell? ⟨gb223, 7, none⟩ = some (.slice Ao40 t218.length co40) := (blk_cell BK223.out 7).trans rfl
      have hcz117_8 : w67.cell? ⟨gb223, 8, none⟩ = some (.bool t221) := (blk_cell BK223.out 8).trans rfl
      have hfz117_0 := blk_frozen BK223.out 0
      have hfz117_1 := blk_frozen BK223.out 1
      have hfz117_2 := blk_frozen BK223.out 2
      have hfz117_3 := blk_frozen BK223.out 3
      have hfz117_4 := blk_frozen BK223.out 4
      have hfz117_5 := blk_frozen BK223.out 5
      have hfz117_6 := blk_frozen BK223.out 6
      have hfz117_7 := blk_frozen BK223.out 7
      have hfz117_8 := blk_frozen BK223.out 8
      have hnb118 := NB240_198.out
      have hnc118 := NB198_240.out
      have hnb119 := NB240_199.out
      have hnc119 := NB199_240.out
      have hnb120 := NB240_200.out
      have hnc120 := NB200_240.out
      have hnb121 := NB240_201.out
      have hnc121 := NB201_240.out
      have hnb122 := NB240_254.out
      have hnc122 := NB254_240.out
      have hnb123 := NB240_268.out
      have hnc123 := NB268_240.out
      have hcz124_0 : w67.cell? ⟨gb240, 0, none⟩ = some (.int .i64 t224) := (blk_cell BK240.out 0).trans rfl
      have hcz124_1 : w67.cell? ⟨gb240, 1, none⟩ = some (.int .i64 t225) := (blk_cell BK240.out 1).trans rfl
      have hcz124_2 : w67.cell? ⟨gb240, 2, none⟩ = some (.int .i64 t226) := (blk_cell BK240.out 2).trans rfl
      have hcz124_3 : w67.cell? ⟨gb240, 3, none⟩ = some (.int .i64 t227) := (blk_cell BK240.out 3).trans rfl
      have hcz124_4 : w67.cell? ⟨gb240, 4, none⟩ = some (.int .i64 t228) := (blk_cell BK240.out 4).trans rfl
      have hcz124_5 : w67.cell? ⟨gb240, 5, none⟩ = some (.slice Ao49 t229.length co49) := (blk_cell BK240.out 5).trans rfl
      have hcz124_6 : w67.cell? ⟨gb240, 6, none⟩ = some (.slice Ao50 t232.length co50) := (blk_cell BK240.out 6).trans rfl
      have hcz124_7 : w67.cell? ⟨gb240, 7, none⟩ = some (.slice Ao51 t235.length co51) := (blk_cell BK240.out 7).trans rfl
      have hcz124_8 : w67.cell? ⟨gb240, 8, none⟩ = some (.bool t238) := (blk_cell BK240.out 8).trans rfl
      have hfz124_0 := blk_frozen BK240.out 0
      have hfz124_1 := blk_frozen BK240.out 1
      have hfz124_2 := blk_frozen BK240.out 2
      have hfz124_3 := blk_frozen BK240.out 3
      have hfz124_4 := blk_frozen BK240.out 4
      have hfz124_5 := blk_frozen BK240.out 5
      have hfz124_6 := blk_frozen BK240.out 6
      have hfz124_7 := blk_frozen BK240.out 7
      have hfz124_8 := blk_frozen BK240.out 8
      go_wp2_with (first | ((with_reducible refine gate_callee (f := 16) rfl ?_); refine goesL_ (some 64) rfl rfl Tryd.func16 (by kernel_rfl) rfl #[.agg #[.int .i64 t207, .int .i64 t208, .int .i64 t209, .int .i64 t210, .int .i64 t211, .slice Ao38 t212.length co38, .slice Ao39 t215.length co39, .slice Ao40 t218.length co40, .bool t221], .agg #[.int .i64 t224, .int .i64 t225, .int .i64 t226, .int .i64 t227, .int .i64 t228, .slice Ao49 t229.length co49, .slice Ao50 t232.length co50, .slice Ao51 t235.length co51, .bool t238]] rfl (by (try simp only [List.map_toArray, List.map_cons, List.map_nil]); first | done | rfl | (simp only [List.length_drop, List.length_take]; rfl)) ?_; (with_reducible refine (tallystickref14_Same.calls k t207 t208 t209 t210 t211 _ _ t212 _ _ t215 _ _ t218 t221 t224 t225 t226 t227 t228 _ _ t229 _ _ t232 _ _ t235 t238 false _ ?side1 ?side2 ?side3 ?side4 ?side5 ?side6 ?side7 ?side8 ?side9 ?side10 ?side11 ?side12 A79.out).mono ?_); (case side1 => refine (Kd.V_reads' (e := 58) (base := w.heap.size) (ok := fun k_ => (((((k_ ≠ gb198 ∧ (k_ ≠ gb199 ∧ (k_ ≠ gb200 ∧ k_ ≠ gb201))) ∧ k_ ≠ gb223) ∧ k_ ≠ gb240) ∧ k_ ≠ gb254) ∧ k_ ≠ gb268)) (n := t212.length) (c := co38) ?_).2.2; exact (by (with_reducible repeat first | apply ze1 | apply ze2 | apply ze3); exact (vfar6 (g := gb268) HO214.out (fun k_ hk => hk.2) _ _ _ _ _ _))); (case side2 => exact (Kd.V_reads' HO214.out).2.1); (case side3 => refine (Kd.V_reads' (e := 58) (base := w.heap.size) (ok := fun k_ => (((((k_ ≠ gb198 ∧ (k_ ≠ gb199 ∧ (k_ ≠ gb200 ∧ k_ ≠ gb201))) ∧ k_ ≠ gb223) ∧ k_ ≠ gb240) ∧ k_ ≠ gb254) ∧ k_ ≠ gb268)) (n := t215.length) (c := co39) ?_).2.2; exact (by (with_reducible repeat first | apply ze1 | apply ze2 | apply ze3); exact (vfar6 (g := gb268) HO217.out (fun k_ hk => hk.2) _ _ _ _ _ _))); (case side4 => exact (Kd.V_reads' HO217.out).2.1); (case side5 => refine (Kd.V_reads' (e := 58) (base := w.heap.size) (ok := fun k_ => (((((k_ ≠ gb198 ∧ (k_ ≠ gb199 ∧ (k_ ≠ gb200 ∧ k_ ≠ gb201))) ∧ k_ ≠ gb223) ∧ k_ ≠ gb240) ∧ k_ ≠ gb254) ∧ k_ ≠ gb268)) (n := t218.length) (c := co40) ?_).2.2; exact (by (with_reducible repeat first | apply ze1 | apply ze2 | apply ze3); exact (vfar6 (g := gb268) HO220.out (fun k_ hk => hk.2) _ _ _ _ _ _))); (case side6 => exact (Kd.V_reads' HO220.out).2.1); (case side7 => refine (Kd.V_reads' (e := 58) (base := w.heap.size) (ok := fun k_ => ((((k_ ≠ gb198 ∧ (k_ ≠ gb199 ∧ (k_ ≠ gb200 ∧ (k_ ≠ gb201 ∧ k_ ≠ gb223)))) ∧ k_ ≠ gb240) ∧ k_ ≠ gb254) ∧ k_ ≠ gb268)) (n := t229.length) (c := co49) ?_).2.2; exact (by (with_reducible repeat first | apply ze1 | apply ze2 | apply ze3); exact (vfar6 (g := gb268) HO231.out (fun k_ hk => hk.2) _ _ _ _ _ _))); (case side8 => exact (Kd.V_reads' HO231.out).2.1); (case side9 => refine (Kd.V_reads' (e := 58) (base := w.heap.size) (ok := fun k_ => ((((k_ ≠ gb198 ∧ (k_ ≠ gb199 ∧ (k_ ≠ gb200 ∧ (k_ ≠ gb201 ∧ k_ ≠ gb223)))) ∧ k_ ≠ gb240) ∧ k_ ≠ gb254) ∧ k_ ≠ gb268)) (n := t232.length) (c := co50) ?_).2.2; exact (by (with_reducible repeat first | apply ze1 | apply ze2 | apply ze3); exact (vfar6 (g := gb268) HO234.out (fun k_ hk => hk.2) _ _ _ _ _ _))); (case side10 => exact (Kd.V_reads' HO234.out).2.1); (case side11 => refine (Kd.V_reads' (e := 58) (base := w.heap.size) (ok := fun k_ => ((((k_ ≠ gb198 ∧ (k_ ≠ gb199 ∧ (k_ ≠ gb200 ∧ (k_ ≠ gb201 ∧ k_ ≠ gb223)))) ∧ k_ ≠ gb240) ∧ k_ ≠ gb254) ∧ k_ ≠ gb268)) (n := t235.length) (c := co51) ?_).2.2; exact (by (with_reducible repeat first | apply ze1 | apply ze2 | apply ze3); exact (vfar6 (g := gb268) HO237.out (fun k_ hk => hk.2) _ _ _ _ _ _))); (case side12 => exact (Kd.V_reads' HO237.out).2.1); rintro e w125 ⟨rfl, hb⟩; clear A79; refine ⟨_, rfl, ?_⟩; have n0_ := zm (Kd.V_below (by (with_reducible repeat first | apply ze1 | apply ze2 | apply ze3); exact (vfar6 (g := gb268) HO214.out (fun k_ hk => hk.2) _ _ _ _ _ _)) hb); have n1_ := zm (Kd.V_below (by (with_reducible repeat first | apply ze1 | apply ze2 | apply ze3); exact (vfar6 (g := gb268) HO217.out (fun k_ hk => hk.2) _ _ _ _ _ _)) hb); have n2_ := zm (Kd.V_below (by (with_reducible repeat first | apply ze1 | apply ze2 | apply ze3); exact (vfar6 (g := gb268) HO220.out (fun k_ hk => hk.2) _ _ _ _ _ _)) hb); have n3_ := zm (Kd.V_below (by (with_reducible repeat first | apply ze1 | apply ze2 | apply ze3); exact (vfar6 (g := gb268) HO231.out (fun k_ hk => hk.2) _ _ _ _ _ _)) hb); have n4_ := zm (Kd.V_below (by (with_reducible repeat first | apply ze1 | apply ze2 | apply ze3); exact (vfar6 (g := gb268) HO234.out (fun k_ hk => hk.2) _ _ _ _ _ _)) hb); have n5_ := zm (Kd.V_below (by (with_reducible repeat first | apply ze1 | apply ze2 | apply ze3); exact (vfar6 (g := gb268) HO237.out (fun k_ hk => hk.2) _ _ _ _ _ _)) hb); have n6_ := zm (Kd.V_below (by (with_reducible repeat first | apply ze1 | apply ze2 | apply ze3); exact (vfar6 (g := gb268) HO245.out (fun k_ hk => hk.2) _ _ _ _ _ _)) hb); have n7_ := zm (Kd.V_below (by (with_reducible repeat first | apply ze1 | apply ze2 | apply ze3); exact (vfar6 (g := gb268) HO248.out (fun k_ hk => hk.2) _ _ _ _ _ _)) hb); have n8_ := zm (Kd.V_below (by (with_reducible repeat first | apply ze1 | apply ze2 | apply ze3); exact (vfar6 (g := gb268) HO251.out (fun k_ hk => hk.2) _ _ _ _ _ _)) hb); have n9_ := zm (Kd.V_below (by (with_reducible repeat first | apply ze1 | apply ze2 | apply ze3); exact (vfar6 (g := gb268) HO259.out (fun k_ hk => hk.2) _ _ _ _ _ _)) hb); have n10_ := zm (Kd.V_below (by (with_reducible repeat first | apply ze1 | apply ze2 | apply ze3); exact (vfar6 (g := gb268) HO262.out (fun k_ hk => hk.2) _ _ _ _ _ _)) hb); have n11_ := zm (Kd.V_below (by (with_reducible repeat first | apply ze1 | apply ze2 | apply ze3); exact (vfar6 (g := gb268) HO265.out (fun k_ hk => hk.2) _ _ _ _ _ _)) hb); have n12_ := zm (blk_below (g := gb198) (o := .cells #[.int .i64 a0_0, .int .i64 a0_1, .int .i64 a0_2, .int .i64 a0_3, .int .i64 a0_4, .slice A0_5 l0_5.length c0_5, .slice A0_6 l0_6.length c0_6, .slice A0_7 l0_7.length c0_7, .bool a0_8, .string a0_9, .int .i64 a0_10, .int .i64 a0_11, .int .i64 a0_12, .int .i64 a0_13, .int .i64 a0_14, .int .i64 a0_15, .int .i64 a0_16, .int .i64 a0_17, .slice A0_18 l0_18.length c0_18, .slice A0_19 l0_19.length c0_19, .slice A0_20 l0_20.length c0_20, .bool a0_21] 46 (0, 0)) (by (with_reducible repeat first | refine zk1 ?_ _ | refine zk2 ?_ | refine zk3 ?_ _); (iterate 6 refine blk_far ?_ NB198_268.out _); (with_reducible repeat first | refine zk1 ?_ _ | refine zk2 ?_ | refine zk3 ?_ _); exact BK198.out) hb); have n13_ := zm (blk_below (g := gb199) (o := .cells #[.int .i64 a0_0, .int .i64 a0_1, .int .i64 a0_2, .int .i64 a0_3, .int .i64 a0_4, .slice A0_5 l0_5.length c0_5, .slice A0_6 l0_6.length c0_6, .slice A0_7 l0_7.length c0_7, .bool a0_8] 34 (0, 0)) (by (with_reducible repeat first | refine zk1 ?_ _ | refine zk2 ?_ | refine zk3 ?_ _); (iterate 6 refine blk_far ?_ NB199_268.out _); (with_reducible repeat first | refine zk1 ?_ _ | refine zk2 ?_ | refine zk3 ?_ _); exact BK199.out) hb); have n14_ := zm (blk_below (g := gb200) (o := .cells #[.int .i64 a0_10, .int .i64 a0_11, .int .i64 a0_12] 23 (0, 0)) (by (with_reducible repeat first | refine zk1 ?_ _ | refine zk2 ?_ | refine zk3 ?_ _); (iterate 6 refine blk_far ?_ NB200_268.out _); (with_reducible repeat first | refine zk1 ?_ _ | refine zk2 ?_ | refine zk3 ?_ _); exact BK200.out) hb); have n15_ := zm (blk_below (g := gb201) (o := .cells #[.int .i64 a0_13, .int .i64 a0_14, .int .i64 a0_15, .int .i64 a0_16, .int .i64 a0_17, .slice A0_18 l0_18.length c0_18, .slice A0_19 l0_19.length c0_19, .slice A0_20 l0_20.length c0_20, .bool a0_21] 34 (0, 0)) (by (with_reducible repeat first | refine zk1 ?_ _ | refine zk2 ?_ | refine zk3 ?_ _); (iterate 6 refine blk_far ?_ NB201_268.out _); (with_reducible repeat first | refine zk1 ?_ _ | refine zk2 ?_ | refine zk3 ?_ _); exact BK201.out) hb); have n16_ := zm (blk_below (g := gb223) (o := .cells #[.int .i64 t207, .int .i64 t208, .int .i64 t209, .int .i64 t210, .int .i64 t211, .slice Ao38 t212.length co38, .slice Ao39 t215.length co39, .slice Ao40 t218.length co40, .bool t221] 34 (0, 0)) (by (with_reducible repeat first | refine zk1 ?_ _ | refine zk2 ?_ | refine zk3 ?_ _); (iterate 6 refine blk_far ?_ NB223_268.out _); (with_reducible repeat first | refine zk1 ?_ _ | refine zk2 ?_ | refine zk3 ?_ _); exact BK223.out) hb); have n17_ := zm (blk_below (g := gb240) (o := .cells #[.int .i64 t224, .int .i64 t225, .int .i64 t226, .int .i64 t227, .int .i64 t228, .slice Ao49 t229.length co49, .slice Ao50 t232.length co50, .slice Ao51 t235.length co51, .bool t238] 34 (0, 0)) (by (with_reducible repeat first | refine zk1 ?_ _ | refine zk2 ?_ | refine zk3 ?_ _); (iterate 6 refine blk_far ?_ NB240_268.out _); (with_reducible repeat first | refine zk1 ?_ _ | refine zk2 ?_ | refine zk3 ?_ _); exact BK240.out) hb); have n18_ := zm (blk_below (g := gb254) (o := .cells #[.int .i64 t241, .int .i64 t242, .slice Ao62 t243.length co62, .slice Ao63 t246.length co63, .slice Ao64 t249.length co64, .bool t252] 29 (0, 0)) (by (with_reducible repeat first | refine zk1 ?_ _ | refine zk2 ?_ | refine zk3 ?_ _); (iterate 6 refine blk_far ?_ NB254_268.out _); (with_reducible repeat first | refine zk1 ?_ _ | refine zk2 ?_ | refine zk3 ?_ _); exact BK254.out) hb); have n19_ := zm (blk_below (g := gb268) (o := .cells #[.int .i64 t255, .int .i64 t256, .slice Ao76 t257.length co76, .slice Ao77 t260.length co77, .slice Ao78 t263.length co78, .bool t266] 29 (0, 0)) (by (with_reducible repeat first | refine zk1 ?_ _ | refine zk2 ?_ | refine zk3 ?_ _); exact put6 (by (with_reducible repeat first | refine zk1 ?_ _ | refine zk2 ?_ | refine zk3 ?_ _); exact BK268.out) _ _ _ _ _ _) hb); have n20_ := zm (below_step (by repeat (first | (with_reducible first | exact HB.out | apply zb1 | apply zb2 | apply zb3 | refine zb4 ?_ GE198.out | refine zb4 ?_ GE199.out | refine zb4 ?_ GE200.out | refine zb4 ?_ GE201.out | refine zb4 ?_ GE223.out | refine zb4 ?_ GE240.out | refine zb4 ?_ GE254.out | refine zb4 ?_ GE268.out) | exact HB.out)) hb); clear HO214 HO217 HO220 HO231 HO234 HO237 HO245 HO248 HO251 HO259 HO262 HO265 BK198 BK199 BK200 BK201 BK223 BK240 BK254 BK268 HB; have HO214 := n0_; have HO217 := n1_; have HO220 := n2_; have HO231 := n3_; have HO234 := n4_; have HO237 := n5_; have HO245 := n6_; have HO248 := n7_; have HO251 := n8_; have HO259 := n9_; have HO262 := n10_; have HO265 := n11_; have BK198 := n12_; have BK199 := n13_; have BK200 := n14_; have BK201 := n15_; have BK223 := n16_; have BK240 := n17_; have BK254 := n18_; have BK268 := n19_; have HB := n20_; clear n0_ n1_ n2_ n3_ n4_ n5_ n6_ n7_ n8_ n9_ n10_ n11_ n12_ n13_ n14_ n15_ n16_ n17_ n18_ n19_ n20_; (try clear hb); (try clear hb2); (try clear hk); (try clear hi)))
      go_meet
      case rel => exact ⟨_, (false), (by first | rfl | (simp; done) | (simp [*]; done)), H', ⟨by first | omega | exact Nat.le_refl _⟩, ⟨by (with_reducible repeat first | apply ze1 | apply ze2 | apply ze3); exact Kd.V_mono HO214.out (fun _ hk => ⟨hk.1.1.1.1.1, ⟨hk.1.1.1.1.2.1, ⟨hk.1.1.1.1.2.2.1, ⟨hk.1.1.1.1.2.2.2, ⟨hk.1.1.1.2, ⟨hk.1.1.2, ⟨hk.1.2, hk.2⟩⟩⟩⟩⟩⟩⟩)⟩, ⟨by (with_reducible repeat first | apply ze1 | apply ze2 | apply ze3); exact Kd.V_mono HO217.out (fun _ hk => ⟨hk.1.1.1.1.1, ⟨hk.1.1.1.1.2.1, ⟨hk.1.1.1.1.2.2.1, ⟨hk.1.1.1.1.2.2.2, ⟨hk.1.1.1.2, ⟨hk.1.1.2, ⟨hk.1.2, hk.2⟩⟩⟩⟩⟩⟩⟩)⟩, ⟨by (with_reducible repeat first | apply ze1 | apply ze2 | apply ze3); exact Kd.V_mono HO220.out (fun _ hk => ⟨hk.1.1.1.1.1, ⟨hk.1.1.1.1.2.1, ⟨hk.1.1.1.1.2.2.1, ⟨hk.1.1.1.1.2.2.2, ⟨hk.1.1.1.2, ⟨hk.1.1.2, ⟨hk.1.2, hk.2⟩⟩⟩⟩⟩⟩⟩)⟩, ⟨by (with_reducible repeat first | apply ze1 | apply ze2 | apply ze3); exact Kd.V_mono HO231.out (fun _ hk => ⟨hk.1.1.1.1, ⟨hk.1.1.1.2.1, ⟨hk.1.1.1.2.2.1, ⟨hk.1.1.1.2.2.2.1, ⟨hk.1.1.1.2.2.2.2, ⟨hk.1.1.2, ⟨hk.1.2, hk.2⟩⟩⟩⟩⟩⟩⟩)⟩, ⟨by (with_reducible repeat first | apply ze1 | apply ze2 | apply ze3); exact Kd.V_mono HO234.out (fun _ hk => ⟨hk.1.1.1.1, ⟨hk.1.1.1.2.1, ⟨hk.1.1.1.2.2.1, ⟨hk.1.1.1.2.2.2.1, ⟨hk.1.1.1.2.2.2.2, ⟨hk.1.1.2, ⟨hk.1.2, hk.2⟩⟩⟩⟩⟩⟩⟩)⟩, ⟨by (with_reducible repeat first | apply ze1 | apply ze2 | apply ze3); exact Kd.V_mono HO237.out (fun _ hk => ⟨hk.1.1.1.1, ⟨hk.1.1.1.2.1, ⟨hk.1.1.1.2.2.1, ⟨hk.1.1.1.2.2.2.1, ⟨hk.1.1.1.2.2.2.2, ⟨hk.1.1.2, ⟨hk.1.2, hk.2⟩⟩⟩⟩⟩⟩⟩)⟩, ⟨by (with_reducible repeat first | apply ze1 | apply ze2 | apply ze3); exact Kd.V_mono HO245.out (fun _ hk => ⟨hk.1.1.1, ⟨hk.1.1.2.1, ⟨hk.1.1.2.2.1, ⟨hk.1.1.2.2.2.1, ⟨hk.1.1.2.2.2.2.1, ⟨hk.1.1.2.2.2.2.2, ⟨hk.1.2, hk.2⟩⟩⟩⟩⟩⟩⟩)⟩, ⟨by (with_reducible repeat first | apply ze1 | apply ze2 | apply ze3); exact Kd.V_mono HO248.out (fun _ hk => ⟨hk.1.1.1, ⟨hk.1.1.2.1, ⟨hk.1.1.2.2.1, ⟨hk.1.1.2.2.2.1, ⟨hk.1.1.2.2.2.2.1, ⟨hk.1.1.2.2.2.2.2, ⟨hk.1.2, hk.2⟩⟩⟩⟩⟩⟩⟩)⟩, ⟨by (with_reducible repeat first | apply ze1 | apply ze2 | apply ze3); exact Kd.V_mono HO251.out (fun _ hk => ⟨hk.1.1.1, ⟨hk.1.1.2.1, ⟨hk.1.1.2.2.1, ⟨hk.1.1.2.2.2.1, ⟨hk.1.1.2.2.2.2.1, ⟨hk.1.1.2.2.2.2.2, ⟨hk.1.2, hk.2⟩⟩⟩⟩⟩⟩⟩)⟩, ⟨by (with_reducible repeat first | apply ze1 | apply ze2 | apply ze3); exact Kd.V_mono HO259.out (fun _ hk => ⟨hk.1.1, ⟨hk.1.2.1, ⟨hk.1.2.2.1, ⟨hk.1.2.2.2.1, ⟨hk.1.2.2.2.2.1, ⟨hk.1.2.2.2.2.2.1, ⟨hk.1.2.2.2.2.2.2, hk.2⟩⟩⟩⟩⟩⟩⟩)⟩, ⟨by (with_reducible repeat first | apply ze1 | apply ze2 | apply ze3); exact Kd.V_mono HO262.out (fun _ hk => ⟨hk.1.1, ⟨hk.1.2.1, ⟨hk.1.2.2.1, ⟨hk.1.2.2.2.1, ⟨hk.1.2.2.2.2.1, ⟨hk.1.2.2.2.2.2.1, ⟨hk.1.2.2.2.2.2.2, hk.2⟩⟩⟩⟩⟩⟩⟩)⟩, ⟨by (with_reducible repeat first | apply ze1 | apply ze2 | apply ze3); exact Kd.V_mono HO265.out (fun _ hk => ⟨hk.1.1, ⟨hk.1.2.1, ⟨hk.1.2.2.1, ⟨hk.1.2.2.2.1, ⟨hk.1.2.2.2.2.1, ⟨hk.1.2.2.2.2.2.1, ⟨hk.1.2.2.2.2.2.2, hk.2⟩⟩⟩⟩⟩⟩⟩)⟩, ⟨by (with_reducible repeat first | refine zk1 ?_ _ | refine zk2 ?_ | refine zk3 ?_ _); exact BK198.out⟩, ⟨by (with_reducible repeat first | refine zk1 ?_ _ | refine zk2 ?_ | refine zk3 ?_ _); exact BK199.out⟩, ⟨by (with_reducible repeat first | refine zk1 ?_ _ | refine zk2 ?_ | refine zk3 ?_ _); exact BK200.out⟩, ⟨by (with_reducible repeat first | refine zk1 ?_ _ | refine zk2 ?_ | refine zk3 ?_ _); exact BK201.out⟩, ⟨by (with_reducible repeat first | refine zk1 ?_ _ | refine zk2 ?_ | refine zk3 ?_ _); exact BK223.out⟩, ⟨by (with_reducible repeat first | refine zk1 ?_ _ | refine zk2 ?_ | refine zk3 ?_ _); exact BK240.out⟩, ⟨by (with_reducible repeat first | refine zk1 ?_ _ | refine zk2 ?_ | refine zk3 ?_ _); exact BK254.out⟩, ⟨by (with_reducible repeat first | refine zk1 ?_ _ | refine zk2 ?_ | refine zk3 ?_ _); exact BK268.out⟩, ⟨by repeat (first | (with_reducible first | exact HB.out | apply zb1 | apply zb2 | apply zb3 | refine zb4 ?_ GE198.out | refine zb4 ?_ GE199.out | refine zb4 ?_ GE200.out | refine zb4 ?_ GE201.out | refine zb4 ?_ GE223.out | refine zb4 ?_ GE240.out | refine zb4 ?_ GE254.out | refine zb4 ?_ GE268.out) | exact HB.out)⟩⟩
  case rest =>
    clear HC9
    try clear c1
    try clear c2
    try clear p2
    try clear c3
    try clear c4
    try clear c5
    try clear c6
    try clear c7
    try clear c8
    try clear c9
    try clear c10
    try clear c11
    try clear c12
    try clear c13
    try clear c14
    try clear c15
    try clear c16
    try clear c17
    try clear c18
    try clear c22
    try clear c23
    try clear c24
    try clear c33
    try clear c34
    try clear c35
    try clear c36
    try clear c43
    try clear c44
    try clear c45
    try clear c46
    try clear c47
    try clear c55
    try clear c56
    try clear c57
    try clear c58
    try clear c59
    try clear c60
    try clear c68
    try clear c69
    try clear c70
    try clear c71
    try clear c72
    try clear c73
    try clear c74
    try clear c80
    try clear c82
    try clear c83
    try clear c84
    try clear c85
    try clear c86
    try clear c87
    try clear c88
    try clear c90
    try clear c91
    try clear c92
    try clear c93
    try clear c94
    try clear c95
    try clear c98
    try clear c99
    try clear c100
    try clear c101
    try clear c102
    try clear c104
    try clear c105
    try clear c106
    try clear c107
    try clear c110
    try clear c111
    try clear c112
    try clear c113
    try clear c114
    try clear c115
    try clear c116
    try clear c118
    try clear c119
    try clear c120
    try clear c121
    try clear c122
    try clear c123
    try clear hcz103_0
    try clear hcz103_1
    try clear hcz103_2
    try clear hcz103_3
    try clear hcz103_4
    try clear hcz103_5
    try clear hcz108_0
    try clear hcz108_1
    try clear hcz108_2
    try clear hcz108_3
    try clear hcz108_4
    try clear hcz108_5
    try clear hcz117_0
    try clear hcz117_1
    try clear hcz117_2
    try clear hcz117_3
    try clear hcz117_4
    try clear hcz117_5
    try clear hcz117_6
    try clear hcz117_7
    try clear hcz117_8
    try clear hcz11_0
    try clear hcz11_1
    try clear hcz11_10
    try clear hcz11_11
    try clear hcz11_12
    try clear hcz11_13
    try clear hcz11_14
    try clear hcz11_15
    try clear hcz11_16
    try clear hcz11_17
    try clear hcz11_18
    try clear hcz11_19
    try clear hcz11_2
    try clear hcz11_20
    try clear hcz11_21
    try clear hcz11_3
    try clear hcz11_4
    try clear hcz11_5
    try clear hcz11_6
    try clear hcz11_7
    try clear hcz11_8
    try clear hcz11_9
    try clear hcz124_0
    try clear hcz124_1
    try clear hcz124_2
    try clear hcz124_3
    try clear hcz124_4
    try clear hcz124_5
    try clear hcz124_6
    try clear hcz124_7
    try clear hcz124_8
    try clear hcz14_0
    try clear hcz14_1
    try clear hcz14_2
    try clear hcz14_3
    try clear hcz14_4
    try clear hcz14_5
    try clear hcz14_6
    try clear hcz14_7
    try clear hcz14_8
    try clear hcz15_0
    try clear hcz15_1
    try clear hcz15_10
    try clear hcz15_11
    try clear hcz15_12
    try clear hcz15_13
    try clear hcz15_14
    try clear hcz15_15
    try clear hcz15_16
    try clear hcz15_17
    try clear hcz15_18
    try clear hcz15_19
    try clear hcz15_2
    try clear hcz15_20
    try clear hcz15_21
    try clear hcz15_3
    try clear hcz15_4
    try clear hcz15_5
    try clear hcz15_6
    try clear hcz15_7
    try clear hcz15_8
    try clear hcz15_9
    try clear hcz19_0
    try clear hcz19_1
    try clear hcz19_2
    try clear hcz20_0
    try clear hcz20_1
    try clear hcz20_10
    try clear hcz20_11
    try clear hcz20_12
    try clear hcz20_13
    try clear hcz20_14
    try clear hcz20_15
    try clear hcz20_16
    try clear hcz20_17
    try clear hcz20_18
    try clear hcz20_19
    try clear hcz20_2
    try clear hcz20_20
    try clear hcz20_21
    try clear hcz20_3
    try clear hcz20_4
    try clear hcz20_5
    try clear hcz20_6
    try clear hcz20_7
    try clear hcz20_8
    try clear hcz20_9
    try clear hcz25_0
    try clear hcz25_1
    try clear hcz25_2
    try clear hcz25_3
    try clear hcz25_4
    try clear hcz25_5
    try clear hcz25_6
    try clear hcz25_7
    try clear hcz25_8
    try clear hcz27_0
    try clear hcz27_1
    try clear hcz27_2
    try clear hcz27_3
    try clear hcz27_4
    try clear hcz27_5
    try clear hcz27_6
    try clear hcz27_7
    try clear hcz27_8
    try clear hcz29_0
    try clear hcz29_1
    try clear hcz29_2
    try clear hcz29_3
    try clear hcz29_4
    try clear hcz29_5
    try clear hcz29_6
    try clear hcz29_7
    try clear hcz29_8
    try clear hcz37_0
    try clear hcz37_1
    try clear hcz37_2
    try clear hcz37_3
    try clear hcz37_4
    try clear hcz37_5
    try clear hcz37_6
    try clear hcz37_7
    try clear hcz37_8
    try clear hcz48_0
    try clear hcz48_1
    try clear hcz48_2
    try clear hcz48_3
    try clear hcz48_4
    try clear hcz48_5
    try clear hcz48_6
    try clear hcz48_7
    try clear hcz48_8
    try clear hcz52_0
    try clear hcz52_1
    try clear hcz52_2
    try clear hcz61_0
    try clear hcz61_1
    try clear hcz61_2
    try clear hcz61_3
    try clear hcz61_4
    try clear hcz61_5
    try clear hcz65_0
    try clear hcz65_1
    try clear hcz65_2
    try clear hcz75_0
    try clear hcz75_1
    try clear hcz75_2
    try clear hcz75_3
    try clear hcz75_4
    try clear hcz75_5
    try clear hcz89_0
    try clear hcz89_1
    try clear hcz89_2
    try clear hcz89_3
    try clear hcz89_4
    try clear hcz89_5
    try clear hcz89_6
    try clear hcz89_7
    try clear hcz89_8
    try clear hcz96_0
    try clear hcz96_1
    try clear hcz96_2
    try clear hcz96_3
    try clear hcz96_4
    try clear hcz96_5
    try clear hcz96_6
    try clear hcz96_7
    try clear hcz96_8
    try clear hfz103_0
    try clear hfz103_1
    try clear hfz103_2
    try clear hfz103_3
    try clear hfz103_4
    try clear hfz103_5
    try clear hfz108_0
    try clear hfz108_1
    try clear hfz108_2
    try clear hfz108_3
    try clear hfz108_4
    try clear hfz108_5
    try clear hfz117_0
    try clear hfz117_1
    try clear hfz117_2
    try clear hfz117_3
    try clear hfz117_4
    try clear hfz117_5
    try clear hfz117_6
    try clear hfz117_7
    try clear hfz117_8
    try clear hfz11_0
    try clear hfz11_1
    try clear hfz11_10
    try clear hfz11_11
    try clear hfz11_12
    try clear hfz11_13
    try clear hfz11_14
    try clear hfz11_15
    try clear hfz11_16
    try clear hfz11_17
    try clear hfz11_18
    try clear hfz11_19
    try clear hfz11_2
    try clear hfz11_20
    try clear hfz11_21
    try clear hfz11_3
    try clear hfz11_4
    try clear hfz11_5
    try clear hfz11_6
    try clear hfz11_7
    try clear hfz11_8
    try clear hfz11_9
    try clear hfz124_0
    try clear hfz124_1
    try clear hfz124_2
    try clear hfz124_3
    try clear hfz124_4
    try clear hfz124_5
    try clear hfz124_6
    try clear hfz124_7
    try clear hfz124_8
    try clear hfz14_0
    try clear hfz14_1
    try clear hfz14_2
    try clear hfz14_3
    try clear hfz14_4
    try clear hfz14_5
    try clear hfz14_6
    try clear hfz14_7
    try clear hfz14_8
    try clear hfz15_0
    try clear hfz15_1
    try clear hfz15_10
    try clear hfz15_11
    try clear hfz15_12
    try clear hfz15_13
    try clear hfz15_14
    try clear hfz15_15
    try clear hfz15_16
    try clear hfz15_17
    try clear hfz15_18
    try clear hfz15_19
    try clear hfz15_2
    try clear hfz15_20
    try clear hfz15_21
    try clear hfz15_3
    try clear hfz15_4
    try clear hfz15_5
    try clear hfz15_6
    try clear hfz15_7
    try clear hfz15_8
    try clear hfz15_9
    try clear hfz19_0
    try clear hfz19_1
    try clear hfz19_2
    try clear hfz20_0
    try clear hfz20_1
    try clear hfz20_10
    try clear hfz20_11
    try clear hfz20_12
    try clear hfz20_13
    try clear hfz20_14
    try clear hfz20_15
    try clear hfz20_16
    try clear hfz20_17
    try clear hfz20_18
    try clear hfz20_19
    try clear hfz20_2
    try clear hfz20_20
    try clear hfz20_21
    try clear hfz20_3
    try clear hfz20_4
    try clear hfz20_5
    try clear hfz20_6
    try clear hfz20_7
    try clear hfz20_8
    try clear hfz20_9
    try clear hfz25_0
    try clear hfz25_1
    try clear hfz25_2
    try clear hfz25_3
    try clear hfz25_4
    try clear hfz25_5
    try clear hfz25_6
    try clear hfz25_7
    try clear hfz25_8
    try clear hfz27_0
    try clear hfz27_1
    try clear hfz27_2
    try clear hfz27_3
    try clear hfz27_4
    try clear hfz27_5
    try clear hfz27_6
    try clear hfz27_7
    try clear hfz27_8
    try clear hfz29_0
    try clear hfz29_1
    try clear hfz29_2
    try clear hfz29_3
    try clear hfz29_4
    try clear hfz29_5
    try clear hfz29_6
    try clear hfz29_7
    try clear hfz29_8
    try clear hfz37_0
    try clear hfz37_1
    try clear hfz37_2
    try clear hfz37_3
    try clear hfz37_4
    try clear hfz37_5
    try clear hfz37_6
    try clear hfz37_7
    try clear hfz37_8
    try clear hfz48_0
    try clear hfz48_1
    try clear hfz48_2
    try clear hfz48_3
    try clear hfz48_4
    try clear hfz48_5
    try clear hfz48_6
    try clear hfz48_7
    try clear hfz48_8
    try clear hfz52_0
    try clear hfz52_1
    try clear hfz52_2
    try clear hfz61_0
    try clear hfz61_1
    try clear hfz61_2
    try clear hfz61_3
    try clear hfz61_4
    try clear hfz61_5
    try clear hfz65_0
    try clear hfz65_1
    try clear hfz65_2
    try clear hfz75_0
    try clear hfz75_1
    try clear hfz75_2
    try clear hfz75_3
    try clear hfz75_4
    try clear hfz75_5
    try clear hfz89_0
    try clear hfz89_1
    try clear hfz89_2
    try clear hfz89_3
    try clear hfz89_4
    try clear hfz89_5
    try clear hfz89_6
    try clear hfz89_7
    try clear hfz89_8
    try clear hfz96_0
    try clear hfz96_1
    try clear hfz96_2
    try clear hfz96_3
    try clear hfz96_4
    try clear hfz96_5
    try clear hfz96_6
    try clear hfz96_7
    try clear hfz96_8
    obtain ⟨kq, x20_8, rfl, HA, HJ8, HO_224005, HO_224006, HO_224007, HO_241005, HO_241006, HO_241007, HO_255002, HO_255003, HO_255004, HO_269002, HO_269003, HO_269004, BK198, BK199, BK200, BK201, BK223, BK240, BK254, BK268, HB⟩ := hcut
    cases kq with
    | zero => exact absurd HA.out (by simp [tallysticklaw14_CrcRecords.j0])
    | succ kj8 =>
      have H := HA.out
      clear HA
      simp only [tallysticklaw14_CrcRecords.j0] at H
      by_cases c126 : t202 = true
      · subst c126
        have H1 : (if t203.toList = t205.toList then (if t204 = t206 then (if x20_8 = true then (if t222 = t239 then (if t253 = t267 then ((crc_Sum.f a0_9).bind fun t271 => ((tallystickref14_Sum.f kj8 a0_9).bind fun t272 => (if t271 = t272 then ((crc_Same.f kj8 a0_0 a0_1 a0_2 a0_3 a0_4 l0_5 l0_6 l0_7 a0_8 a0_13 a0_14 a0_15 a0_16 a0_17 l0_18 l0_19 l0_20 a0_21).bind fun t273 => ((tallystickref14_Same.f kj8 a0_0 a0_1 a0_2 a0_3 a0_4 l0_5 l0_6 l0_7 a0_8 a0_13 a0_14 a0_15 a0_16 a0_17 l0_18 l0_19 l0_20 a0_21).bind fun t274 => (some (t273 == t274)))) else (some false)))) else (some false)) else (some false)) else (some false)) else (some false)) else (some false)) = some r := by rw [if_pos rfl] at H; exact H
        clear H
        have H := H1
        clear H1
        by_cases c127 : t203.toList = t205.toList
        · rw [if_pos c127] at H
          have c127b0 : (t203.toList == t205.toList) = true := beq_iff_eq.mpr c127
          have c127b1 : (t203.toList != t205.toList) = false := bne_eq_false_iff_eq.mpr c127
          clear c127
          by_cases c128 : t204 = t206
          · rw [if_pos c128] at H
            have c128b0 : (t204 == t206) = true := beq_iff_eq.mpr c128
            have c128b1 : (t204 != t206) = false := bne_eq_false_iff_eq.mpr c128
            clear c128
            by_cases c129 : x20_8 = true
            · subst c129
              have H1 : (if t222 = t239 then (if t253 = t267 then ((crc_Sum.f a0_9).bind fun t271 => ((tallystickref14_Sum.f kj8 a0_9).bind fun t272 => (if t271 = t272 then ((crc_Same.f kj8 a0_0 a0_1 a0_2 a0_3 a0_4 l0_5 l0_6 l0_7 a0_8 a0_13 a0_14 a0_15 a0_16 a0_17 l0_18 l0_19 l0_20 a0_21).bind fun t273 => ((tallystickref14_Same.f kj8 a0_0 a0_1 a0_2 a0_3 a0_4 l0_5 l0_6 l0_7 a0_8 a0_13 a0_14 a0_15 a0_16 a0_17 l0_18 l0_19 l0_20 a0_21).bind fun t274 => (some (t273 == t274)))) else (some false)))) else (some false)) else (some false)) = some r := by rw [if_pos rfl] at H; exact H
              clear H
              have H := H1
              clear H1
              by_cases c130 : t222 = t239
              · rw [if_pos c130] at H
                have c130b0 : (t222 == t239) = true := beq_iff_eq.mpr c130
                have c130b1 : (t222 != t239) = false := bne_eq_false_iff_eq.mpr c130
                clear c130
                by_cases c131 : t253 = t267
                · rw [if_pos c131] at H
                  have c131b0 : (t253 == t267) = true := beq_iff_eq.mpr c131
                  have c131b1 : (t253 != t267) = false := bne_eq_false_iff_eq.mpr c131
                  clear c131
                  replace H := Option.bind_eq_some_iff.mp H
                  obtain ⟨t271, A1320, H⟩ := H
                  replace H : ((tallystickref14_Sum.f kj8 a0_9).bind fun t272 => (if t271 = t272 then ((crc_Same.f kj8 a0_0 a0_1 a0_2 a0_3 a0_4 l0_5 l0_6 l0_7 a0_8 a0_13 a0_14 a0_15 a0_16 a0_17 l0_18 l0_19 l0_20 a0_21).bind fun t273 => ((tallystickref14_Same.f kj8 a0_0 a0_1 a0_2 a0_3 a0_4 l0_5 l0_6 l0_7 a0_8 a0_13 a0_14 a0_15 a0_16 a0_17 l0_18 l0_19 l0_20 a0_21).bind fun t274 => (some (t273 == t274)))) else (some false))) = some r := H
                  have A132 := zm A1320
                  clear A1320
                  replace H := Option.bind_eq_some_iff.mp H
                  obtain ⟨t272, A1330, H⟩ := H
                  replace H : (if t271 = t272 then ((crc_Same.f kj8 a0_0 a0_1 a0_2 a0_3 a0_4 l0_5 l0_6 l0_7 a0_8 a0_13 a0_14 a0_15 a0_16 a0_17 l0_18 l0_19 l0_20 a0_21).bind fun t273 => ((tallystickref14_Same.f kj8 a0_0 a0_1 a0_2 a0_3 a0_4 l0_5 l0_6 l0_7 a0_8 a0_13 a0_14 a0_15 a0_16 a0_17 l0_18 l0_19 l0_20 a0_21).bind fun t274 => (some (t273 == t274)))) else (some false)) = some r := H
                  have A133 := zm A1330
                  clear A1330
                  by_cases c134 : t271 = t272
                  · rw [if_pos c134] at H
                    have c134b0 : (t271 == t272) = true := beq_iff_eq.mpr c134
                    have c134b1 : (t271 != t272) = false := bne_eq_false_iff_eq.mpr c134
                    clear c134
                    replace H := Option.bind_eq_some_iff.mp H
                    obtain ⟨t273, A1350, H⟩ := H
                    replace H : ((tallystickref14_Same.f kj8 a0_0 a0_1 a0_2 a0_3 a0_4 l0_5 l0_6 l0_7 a0_8 a0_13 a0_14 a0_15 a0_16 a0_17 l0_18 l0_19 l0_20 a0_21).bind fun t274 => (some (t273 == t274))) = some r := H
                    have A135 := zm A1350
                    clear A1350
                    replace H := Option.bind_eq_some_iff.mp H
                    obtain ⟨t274, A1360, H⟩ := H
                    replace H : (some (t273 == t274)) = some r := H
                    have A136 := zm A1360
                    clear A1360
                    obtain rfl := Option.some.inj H
                    try go_wp2
                    have n0_ := zm (Kd.V_drew HO_224005.out)
                    have n1_ := zm (Kd.V_drew HO_224006.out)
                    have n2_ := zm (Kd.V_drew HO_224007.out)
                    have n3_ := zm (Kd.V_drew HO_241005.out)
                    have n4_ := zm (Kd.V_drew HO_241006.out)
                    have n5_ := zm (Kd.V_drew HO_241007.out)
                    have n6_ := zm (Kd.V_drew HO_255002.out)
                    have n7_ := zm (Kd.V_drew HO_255003.out)
                    have n8_ := zm (Kd.V_drew HO_255004.out)
                    have n9_ := zm (Kd.V_drew HO_269002.out)
                    have n10_ := zm (Kd.V_drew HO_269003.out)
                    have n11_ := zm (Kd.V_drew HO_269004.out)
                    have n12_ := zm (blk_drew BK198.out)
                    have n13_ := zm (blk_drew BK199.out)
                    have n14_ := zm (blk_drew BK200.out)
                    have n15_ := zm (blk_drew BK201.out)
                    have n16_ := zm (blk_drew BK223.out)
                    have n17_ := zm (blk_drew BK240.out)
                    have n18_ := zm (blk_drew BK254.out)
                    have n19_ := zm (blk_drew BK268.out)
                    have n20_ := zm (below_drew1 HB.out)
                    clear HO_224005
                    clear HO_224006
                    clear HO_224007
                    clear HO_241005
                    clear HO_241006
                    clear HO_241007
                    clear HO_255002
                    clear HO_255003
                    clear HO_255004
                    clear HO_269002
                    clear HO_269003
                    clear HO_269004
                    clear BK198
                    clear BK199
                    clear BK200
                    clear BK201
                    clear BK223
                    clear BK240
                    clear BK254
                    clear BK268
                    clear HB
                    have HO_224005 := n0_
                    have HO_224006 := n1_
                    have HO_224007 := n2_
                    have HO_241005 := n3_
                    have HO_241006 := n4_
                    have HO_241007 := n5_
                    have HO_255002 := n6_
                    have HO_255003 := n7_
                    have HO_255004 := n8_
                    have HO_269002 := n9_
                    have HO_269003 := n10_
                    have HO_269004 := n11_
                    have BK198 := n12_
                    have BK199 := n13_
                    have BK200 := n14_
                    have BK201 := n15_
                    have BK223 := n16_
                    have BK240 := n17_
                    have BK254 := n18_
                    have BK268 := n19_
                    have HB := n20_
                    clear n0_ n1_ n2_ n3_ n4_ n5_ n6_ n7_ n8_ n9_ n10_ n11_ n12_ n13_ n14_ n15_ n16_ n17_ n18_ n19_ n20_
                    refine start_ (n := 41) (S := fun w' => w'.cell? ⟨gb199, 0, none⟩ = some (.int .i64 a0_0) ∧ w'.cell? ⟨gb199, 1, none⟩ = some (.int .i64 a0_1) ∧ w'.cell? ⟨gb199, 2, none⟩ = some (.int .i64 a0_2) ∧ w'.cell? ⟨gb199, 3, none⟩ = some (.int .i64 a0_3) ∧ w'.cell? ⟨gb199, 4, none⟩ = some (.int .i64 a0_4) ∧ w'.cell? ⟨gb199, 5, none⟩ = some (.slice A0_5 l0_5.length c0_5) ∧ w'.cell? ⟨gb199, 6, none⟩ = some (.slice A0_6 l0_6.length c0_6) ∧ w'.cell? ⟨gb199, 7, none⟩ = some (.slice A0_7 l0_7.length c0_7) ∧ w'.cell? ⟨gb199, 8, none⟩ = some (.bool a0_8) ∧ w'.cell? ⟨gb201, 0, none⟩ = some (.int .i64 a0_13) ∧ w'.cell? ⟨gb201, 1, none⟩ = some (.int .i64 a0_14) ∧ w'.cell? ⟨gb201, 2, none⟩ = some (.int .i64 a0_15) ∧ w'.cell? ⟨gb201, 3, none⟩ = some (.int .i64 a0_16) ∧ w'.cell? ⟨gb201, 4, none⟩ = some (.int .i64 a0_17) ∧ w'.cell? ⟨gb201, 5, none⟩ = some (.slice A0_18 l0_18.length c0_18) ∧ w'.cell? ⟨gb201, 6, none⟩ = some (.slice A0_19 l0_19.length c0_19) ∧ w'.cell? ⟨gb201, 7, none⟩ = some (.slice A0_20 l0_20.length c0_20) ∧ w'.cell? ⟨gb201, 8, none⟩ = some (.bool a0_21)) (ds := []) #[false, false, false, false, false, false, false, false, false, false, false, false, false, false, false, false, false, false, false, false, false, false, false, false, false, false, false, false, false, false, false, false, false, false, false, false, false, false, false, false, false] (by kernel_rfl) rfl rfl ⟨(blk_cell BK199.out 0).trans rfl, (blk_cell BK199.out 1).trans rfl, (blk_cell BK199.out 2).trans rfl, (blk_cell BK199.out 3).trans rfl, (blk_cell BK199.out 4).trans rfl, (blk_cell BK199.out 5).trans rfl, (blk_cell BK199.out 6).trans rfl, (blk_cell BK199.out 7).trans rfl, (blk_cell BK199.out 8).trans rfl, (blk_cell BK201.out 0).trans rfl, (blk_cell BK201.out 1).trans rfl, (blk_cell BK201.out 2).trans rfl, (blk_cell BK201.out 3).trans rfl, (blk_cell BK201.out 4).trans rfl, (blk_cell BK201.out 5).trans rfl, (blk_cell BK201.out 6).trans rfl, (blk_cell BK201.out 7).trans rfl, (blk_cell BK201.out 8).trans rfl⟩ (fun hHeld => ?_); refine with_tabW tallysticklaw14_CrcRecords.tab13 tallysticklaw14_CrcRecords.bits13 (fun HT_ HW_ => ?_)
                    generalize wc.drew = w137 at HO_224005 HO_224006 HO_224007 HO_241005 HO_241006 HO_241007 HO_255002 HO_255003 HO_255004 HO_269002 HO_269003 HO_269004 BK198 BK199 BK200 BK201 BK223 BK240 BK254 BK268 HB hHeld ⊢
                    refine pure_ (i := 0) (N := some 70) (v := ?_) (a' := ?_) #[true, false, false, false, false, false, false, false, false, false, false, false, false, false, false, false, false, false, false, false, false, false, false, false, false, false, false, false, false, false, false, false, false, false, false, false, false, false, false, false, false] rfl rfl (any_of HT_.out (by kernel_rfl)) (fun _ _ _ h => h) (Or.inl ⟨by rfl, ?_⟩) ?_ ?_
                    rotate_left
                    · intro w'
                      go_simp
                      with_reducible rfl
                    rotate_left
                    · simp only [Act.put, List.setIfInBounds_toArray, List.set_cons_zero, List.set_cons_succ, i64_w, i32_w]
                      rfl
                    refine pure_ (i := 1) (N := some 71) (v := ?_) (a' := ?_) #[true, true, false, false, false, false, false, false, false, false, false, false, false, false, false, false, false, false, false, false, false, false, false, false, false, false, false, false, false, false, false, false, false, false, false, false, false, false, false, false, false] rfl rfl (any_of HT_.out (by kernel_rfl)) (fun _ _ _ h => h) (Or.inl ⟨by rfl, ?_⟩) ?_ ?_
                    rotate_left
                    · intro w'
                      go_simp
                      with_reducible rfl
                    rotate_left
                    · simp only [Act.put, List.setIfInBounds_toArray, List.set_cons_zero, List.set_cons_succ, i64_w, i32_w]
                      rfl
                    refine pure_ (i := 2) (N := some 72) (v := ?_) (a' := ?_) #[true, true, true, false, false, false, false, false, false, false, false, false, false, false, false, false, false, false, false, false, false, false, false, false, false, false, false, false, false, false, false, false, false, false, false, false, false, false, false, false, false] rfl rfl (any_of HT_.out (by kernel_rfl)) (fun _ _ _ h => h) (Or.inl ⟨by rfl, ?_⟩) ?_ ?_
                    rotate_left
                    · intro w'
                      go_simp
                      with_reducible rfl
                    rotate_left
                    · simp only [Act.put, List.setIfInBounds_toArray, List.set_cons_zero, List.set_cons_succ, i64_w, i32_w]
                      rfl
                    refine pure_ (i := 3) (N := some 73) (v := ?_) (a' := ?_) #[true, true, true, true, false, false, false, false, false, false, false, false, false, false, false, false, false, false, false, false, false, false, false, false, false, false, false, false, false, false, false, false, false, false, false, false, false, false, false, false, false] rfl rfl (any_of HT_.out (by kernel_rfl)) (fun _ _ _ h => h) (Or.inl ⟨by rfl, ?_⟩) ?_ ?_
                    rotate_left
                    · intro w'
                      go_simp
                      with_reducible rfl
                    rotate_left
                    · simp only [Act.put, List.setIfInBounds_toArray, List.set_cons_zero, List.set_cons_succ, i64_w, i32_w]
                      rfl
                    refine pure_ (i := 4) (N := some 74) (v := ?_) (a' := ?_) #[true, true, true, true, true, false, false, false, false, false, false, false, false, false, false, false, false, false, false, false, false, false, false, false, false, false, false, false, false, false, false, false, false, false, false, false, false, false, false, false, false] rfl rfl (any_of HT_.out (by kernel_rfl)) (fun _ _ _ h => h) (Or.inl ⟨by rfl, ?_⟩) ?_ ?_
                    rotate_left
                    · intro w'
                      go_simp
                      with_reducible rfl
                    rotate_left
                    · simp only [Act.put, List.setIfInBounds_toArray, List.set_cons_zero, List.set_cons_succ, i64_w, i32_w]
                      rfl
                    refine pure_ (i := 5) (N := some 75) (v := ?_) (a' := ?_) #[true, true, true, true, true, true, false, false, false, false, false, false, false, false, false, false, false, false, false, false, false, false, false, false, false, false, false, false, false, false, false, false, false, false, false, false, false, false, false, false, false] rfl rfl (any_of HT_.out (by kernel_rfl)) (fun _ _ _ h => h) (Or.inl ⟨by rfl, ?_⟩) ?_ ?_
                    rotate_left
                    · intro w'
                      go_simp
                      with_reducible rfl
                    rotate_left
                    · simp only [Act.put, List.setIfInBounds_toArray, List.set_cons_zero, List.set_cons_succ, i64_w, i32_w]
                      rfl
                    refine pure_ (i := 6) (N := some 76) (v := ?_) (a' := ?_) #[true, true, true, true, true, true, true, false, false, false, false, false, false, false, false, false, false, false, false, false, false, false, false, false, false, false, false, false, false, false, false, false, false, false, false, false, false, false, false, false, false] rfl rfl (any_of HT_.out (by kernel_rfl)) (fun _ _ _ h => h) (Or.inl ⟨by rfl, ?_⟩) ?_ ?_
                    rotate_left
                    · intro w'
                      go_simp
                      with_reducible rfl
                    rotate_left
                    · simp only [Act.put, List.setIfInBounds_toArray, List.set_cons_zero, List.set_cons_succ, i64_w, i32_w]
                      rfl
                    refine pure_ (i := 7) (N := some 77) (v := ?_) (a' := ?_) #[true, true, true, true, true, true, true, true, false, false, false, false, false, false, false, false, false, false, false, false, false, false, false, false, false, false, false, false, false, false, false, false, false, false, false, false, false, false, false, false, false] rfl rfl (any_of HT_.out (by kernel_rfl)) (fun _ _ _ h => h) (Or.inl ⟨by rfl, ?_⟩) ?_ ?_
                    rotate_left
                    · intro w'
                      go_simp
                      with_reducible rfl
                    rotate_left
                    · simp only [Act.put, List.setIfInBounds_toArray, List.set_cons_zero, List.set_cons_succ, i64_w, i32_w]
                      rfl
                    refine pure_ (i := 8) (N := some 78) (v := ?_) (a' := ?_) #[true, true, true, true, true, true, true, true, true, false, false, false, false, false, false, false, false, false, false, false, false, false, false, false, false, false, false, false, false, false, false, false, false, false, false, false, false, false, false, false, false] rfl rfl (any_of HT_.out (by kernel_rfl)) (fun _ _ _ h => h) (Or.inl ⟨by rfl, ?_⟩) ?_ ?_
                    rotate_left
                    · intro w'
                      go_simp
                      with_reducible rfl
                    rotate_left
                    · simp only [Act.put, List.setIfInBounds_toArray, List.set_cons_zero, List.set_cons_succ, i64_w, i32_w]
                      rfl
                    refine pure_ (i := 9) (N := some 79) (v := ?_) (a' := ?_) #[true, true, true, true, true, true, true, true, true, true, false, false, false, false, false, false, false, false, false, false, false, false, false, false, false, false, false, false, false, false, false, false, false, false, false, false, false, false, false, false, false] rfl rfl (any_of HT_.out (by kernel_rfl)) (fun _ _ _ h => h) (Or.inl ⟨by rfl, ?_⟩) ?_ ?_
                    rotate_left
                    · intro w'
                      go_simp
                      with_reducible rfl
                    rotate_left
                    · simp only [Act.put, List.setIfInBounds_toArray, List.set_cons_zero, List.set_cons_succ, i64_w, i32_w]
                      rfl
                    refine pure_ (i := 10) (N := some 80) (v := ?_) (a' := ?_) #[true, true, true, true, true, true, true, true, true, true, true, false, false, false, false, false, false, false, false, false, false, false, false, false, false, false, false, false, false, false, false, false, false, false, false, false, false, false, false, false, false] rfl rfl (any_of HT_.out (by kernel_rfl)) (fun _ _ _ h => h) (Or.inl ⟨by rfl, ?_⟩) ?_ ?_
                    rotate_left
                    · intro w'
                      go_simp
                      with_reducible rfl
                    rotate_left
                    · simp only [Act.put, List.setIfInBounds_toArray, List.set_cons_zero, List.set_cons_succ, i64_w, i32_w]
                      rfl
                    refine pure_ (i := 11) (N := some 81) (v := ?_) (a' := ?_) #[true, true, true, true, true, true, true, true, true, true, true, true, false, false, false, false, false, false, false, false, false, false, false, false, false, false, false, false, false, false, false, false, false, false, false, false, false, false, false, false, false] rfl rfl (any_of HT_.out (by kernel_rfl)) (fun _ _ _ h => h) (Or.inl ⟨by rfl, ?_⟩) ?_ ?_
                    rotate_left
                    · intro w'
                      go_simp
                      with_reducible rfl
                    rotate_left
                    · simp only [Act.put, List.setIfInBounds_toArray, List.set_cons_zero, List.set_cons_succ, i64_w, i32_w]
                      rfl
                    refine pure_ (i := 12) (N := some 82) (v := ?_) (a' := ?_) #[true, true, true, true, true, true, true, true, true, true, true, true, true, false, false, false, false, false, false, false, false, false, false, false, false, false, false, false, false, false, false, false, false, false, false, false, false, false, false, false, false] rfl rfl (any_of HT_.out (by kernel_rfl)) (fun _ _ _ h => h) (Or.inl ⟨by rfl, ?_⟩) ?_ ?_
                    rotate_left
                    · intro w'
                      go_simp
                      with_reducible rfl
                    rotate_left
                    · simp only [Act.put, List.setIfInBounds_toArray, List.set_cons_zero, List.set_cons_succ, i64_w, i32_w]
                      rfl
                    refine pure_ (i := 13) (N := some 83) (v := ?_) (a' := ?_) #[true, true, true, true, true, true, true, true, true, true, true, true, true, true, false, false, false, false, false, false, false, false, false, false, false, false, false, false, false, false, false, false, false, false, false, false, false, false, false, false, false] rfl rfl (any_of HT_.out (by kernel_rfl)) (fun _ _ _ h => h) (Or.inl ⟨by rfl, ?_⟩) ?_ ?_
                    rotate_left
                    · intro w'
                      go_simp
                      with_reducible rfl
                    rotate_left
                    · simp only [Act.put, List.setIfInBounds_toArray, List.set_cons_zero, List.set_cons_succ, i64_w, i32_w]
                      rfl
                    refine pure_ (i := 14) (N := some 84) (v := ?_) (a' := ?_) #[true, true, true, true, true, true, true, true, true, true, true, true, true, true, true, false, false, false, false, false, false, false, false, false, false, false, false, false, false, false, false, false, false, false, false, false, false, false, false, false, false] rfl rfl (any_of HT_.out (by kernel_rfl)) (fun _ _ _ h => h) (Or.inl ⟨by rfl, ?_⟩) ?_ ?_
                    rotate_left
                    · intro w'
                      go_simp
                      with_reducible rfl
                    rotate_left
                    · simp only [Act.put, List.setIfInBounds_toArray, List.set_cons_zero, List.set_cons_succ, i64_w, i32_w]
                      rfl
                    refine pure_ (i := 15) (N := some 85) (v := ?_) (a' := ?_) #[true, true, true, true, true, true, true, true, true, true, true, true, true, true, true, true, false, false, false, false, false, false, false, false, false, false, false, false, false, false, false, false, false, false, false, false, false, false, false, false, false] rfl rfl (any_of HT_.out (by kernel_rfl)) (fun _ _ _ h => h) (Or.inl ⟨by rfl, ?_⟩) ?_ ?_
                    rotate_left
                    · intro w'
                      go_simp
                      with_reducible rfl
                    rotate_left
                    · simp only [Act.put, List.setIfInBounds_toArray, List.set_cons_zero, List.set_cons_succ, i64_w, i32_w]
                      rfl
                    refine pure_ (i := 16) (N := some 86) (v := ?_) (a' := ?_) #[true, true, true, true, true, true, true, true, true, true, true, true, true, true, true, true, true, false, false, false, false, false, false, false, false, false, false, false, false, false, false, false, false, false, false, false, false, false, false, false, false] rfl rfl (any_of HT_.out (by kernel_rfl)) (fun _ _ _ h => h) (Or.inl ⟨by rfl, ?_⟩) ?_ ?_
                    rotate_left
                    · intro w'
                      go_simp
                      with_reducible rfl
                    rotate_left
                    · simp only [Act.put, List.setIfInBounds_toArray, List.set_cons_zero, List.set_cons_succ, i64_w, i32_w]
                      rfl
                    refine pure_ (i := 17) (N := some 87) (v := ?_) (a' := ?_) #[true, true, true, true, true, true, true, true, true, true, true, true, true, true, true, true, true, true, false, false, false, false, false, false, false, false, false, false, false, false, false, false, false, false, false, false, false, false, false, false, false] rfl rfl (any_of HT_.out (by kernel_rfl)) (fun _ _ _ h => h) (Or.inl ⟨by rfl, ?_⟩) ?_ ?_
                    rotate_left
                    · intro w'
                      go_simp
                      with_reducible rfl
                    rotate_left
                    · simp only [Act.put, List.setIfInBounds_toArray, List.set_cons_zero, List.set_cons_succ, i64_w, i32_w]
                      rfl
                    refine pure_ (i := 18) (N := some 88) (v := ?_) (a' := ?_) #[true, true, true, true, true, true, true, true, true, true, true, true, true, true, true, true, true, true, true, false, false, false, false, false, false, false, false, false, false, false, false, false, false, false, false, false, false, false, false, false, false] rfl rfl (any_of HT_.out (by kernel_rfl)) (fun _ _ _ h => h) (Or.inl ⟨by rfl, ?_⟩) ?_ ?_
                    rotate_left
                    · intro w'
                      go_simp
                      with_reducible rfl
                    rotate_left
                    · simp only [Act.put, List.setIfInBounds_toArray, List.set_cons_zero, List.set_cons_succ, i64_w, i32_w]
                      rfl
                    refine pure_ (i := 19) (N := some 89) (v := ?_) (a' := ?_) #[true, true, true, true, true, true, true, true, true, true, true, true, true, true, true, true, true, true, true, true, false, false, false, false, false, false, false, false, false, false, false, false, false, false, false, false, false, false, false, false, false] rfl rfl (any_of HT_.out (by kernel_rfl)) (fun _ _ _ h => h) (Or.inl ⟨by rfl, ?_⟩) ?_ ?_
                    rotate_left
                    · intro w'
                      go_simp
                      with_reducible rfl
                    rotate_left
                    · simp only [Act.put, List.setIfInBounds_toArray, List.set_cons_zero, List.set_cons_succ, i64_w, i32_w]
                      rfl
                    refine pure_ (i := 20) (N := some 90) (v := ?_) (a' := ?_) #[true, true, true, true, true, true, true, true, true, true, true, true, true, true, true, true, true, true, true, true, true, false, false, false, false, false, false, false, false, false, false, false, false, false, false, false, false, false, false, false, false] rfl rfl (any_of HT_.out (by kernel_rfl)) (fun _ _ _ h => h) (Or.inl ⟨by rfl, ?_⟩) ?_ ?_
                    rotate_left
                    · intro w'
                      go_simp
                      with_reducible rfl
                    rotate_left
                    · simp only [Act.put, List.setIfInBounds_toArray, List.set_cons_zero, List.set_cons_succ, i64_w, i32_w]
                      rfl
                    refine pure_ (i := 21) (N := some 91) (v := ?_) (a' := ?_) #[true, true, true, true, true, true, true, true, true, true, true, true, true, true, true, true, true, true, true, true, true, true, false, false, false, false, false, false, false, false, false, false, false, false, false, false, false, false, false, false, false] rfl rfl (any_of HT_.out (by kernel_rfl)) (fun _ _ _ h => h) (Or.inl ⟨by rfl, ?_⟩) ?_ ?_
                    rotate_left
                    · intro w'
                      go_simp
                      with_reducible rfl
                    rotate_left
                    · simp only [Act.put, List.setIfInBounds_toArray, List.set_cons_zero, List.set_cons_succ, i64_w, i32_w]
                      rfl
                    refine pure_ (i := 22) (N := some 92) (v := ?_) (a' := ?_) #[true, true, true, true, true, true, true, true, true, true, true, true, true, true, true, true, true, true, true, true, true, true, true, false, false, false, false, false, false, false, false, false, false, false, false, false, false, false, false, false, false] rfl rfl (any_of HT_.out (by kernel_rfl)) (fun _ _ _ h => h) (Or.inl ⟨by rfl, ?_⟩) ?_ ?_
                    rotate_left
                    · intro w'
                      go_simp
                      with_reducible rfl
                    rotate_left
                    · simp only [Act.put, List.setIfInBounds_toArray, List.set_cons_zero, List.set_cons_succ, i64_w, i32_w]
                      rfl
                    refine pure_ (i := 23) (N := some 93) (v := ?_) (a' := ?_) #[true, true, true, true, true, true, true, true, true, true, true, true, true, true, true, true, true, true, true, true, true, true, true, true, false, false, false, false, false, false, false, false, false, false, false, false, false, false, false, false, false] rfl rfl (any_of HT_.out (by kernel_rfl)) (fun _ _ _ h => h) (Or.inl ⟨by rfl, ?_⟩) ?_ ?_
                    rotate_left
                    · intro w'
                      go_simp
                      with_reducible rfl
                    rotate_left
                    · simp only [Act.put, List.setIfInBounds_toArray, List.set_cons_zero, List.set_cons_succ, i64_w, i32_w]
                      rfl
                    refine pure_ (i := 24) (N := some 94) (v := ?_) (a' := ?_) #[true, true, true, true, true, true, true, true, true, true, true, true, true, true, true, true, true, true, true, true, true, true, true, true, true, false, false, false, false, false, false, false, false, false, false, false, false, false, false, false, false] rfl rfl (any_of HT_.out (by kernel_rfl)) (fun _ _ _ h => h) (Or.inl ⟨by rfl, ?_⟩) ?_ ?_
                    rotate_left
                    · intro w'
                      go_simp
                      with_reducible rfl
                    rotate_left
                    · simp only [Act.put, List.setIfInBounds_toArray, List.set_cons_zero, List.set_cons_succ, i64_w, i32_w]
                      rfl
                    refine pure_ (i := 25) (N := some 95) (v := ?_) (a' := ?_) #[true, true, true, true, true, true, true, true, true, true, true, true, true, true, true, true, true, true, true, true, true, true, true, true, true, true, false, false, false, false, false, false, false, false, false, false, false, false, false, false, false] rfl rfl (any_of HT_.out (by kernel_rfl)) (fun _ _ _ h => h) (Or.inl ⟨by rfl, ?_⟩) ?_ ?_
                    rotate_left
                    · intro w'
                      go_simp
                      with_reducible rfl
                    rotate_left
                    · simp only [Act.put, List.setIfInBounds_toArray, List.set_cons_zero, List.set_cons_succ, i64_w, i32_w]
                      rfl
                    refine pure_ (i := 27) (N := some 97) (v := ?_) (a' := ?_) #[true, true, true, true, true, true, true, true, true, true, true, true, true, true, true, true, true, true, true, true, true, true, true, true, true, true, false, true, false, false, false, false, false, false, false, false, false, false, false, false, false] rfl rfl (any_of HT_.out (by kernel_rfl)) (fun _ _ _ h => h) (Or.inl ⟨by rfl, ?_⟩) ?_ ?_
                    rotate_left
                    · intro w'
                      go_simp
                      with_reducible rfl
                    rotate_left
                    · simp only [Act.put, List.setIfInBounds_toArray, List.set_cons_zero, List.set_cons_succ, i64_w, i32_w]
                      rfl
                    refine one_ (i := 26) (N := some 96) #[true, true, true, true, true, true, true, true, true, true, true, true, true, true, true, true, true, true, true, true, true, true, true, true, true, true, true, true, false, false, false, false, false, false, false, false, false, false, false, false, false] rfl rfl (one_of HT_.out (by kernel_rfl)) (by decide) (fun K hK => ?_)
                    refine goes_ Tryd.func18 (by kernel_rfl) rfl #[.string a0_9] (by rfl) rfl rfl (by (try simp only [List.map_toArray, List.map_cons, List.map_nil]); first | done | rfl | (simp only [List.length_drop, List.length_take]; rfl)) ?_
                    with_reducible refine (crc_Sum.calls a0_9 t271 _ A132.out).mono ?_
                    rintro e w138 ⟨rfl, hb⟩
                    refine ⟨_, rfl, ?_⟩
                    have n0_ := zm (Kd.V_below (by (with_reducible repeat first | apply ze1 | apply ze2 | apply ze3); exact HO_224005.out) hb)
                    have n1_ := zm (Kd.V_below (by (with_reducible repeat first | apply ze1 | apply ze2 | apply ze3); exact HO_224006.out) hb)
                    have n2_ := zm (Kd.V_below (by (with_reducible repeat first | apply ze1 | apply ze2 | apply ze3); exact HO_224007.out) hb)
                    have n3_ := zm (Kd.V_below (by (with_reducible repeat first | apply ze1 | apply ze2 | apply ze3); exact HO_241005.out) hb)
                    have n4_ := zm (Kd.V_below (by (with_reducible repeat first | apply ze1 | apply ze2 | apply ze3); exact HO_241006.out) hb)
                    have n5_ := zm (Kd.V_below (by (with_reducible repeat first | apply ze1 | apply ze2 | apply ze3); exact HO_241007.out) hb)
                    have n6_ := zm (Kd.V_below (by (with_reducible repeat first | apply ze1 | apply ze2 | apply ze3); exact HO_255002.out) hb)
                    have n7_ := zm (Kd.V_below (by (with_reducible repeat first | apply ze1 | apply ze2 | apply ze3); exact HO_255003.out) hb)
                    have n8_ := zm (Kd.V_below (by (with_reducible repeat first | apply ze1 | apply ze2 | apply ze3); exact HO_255004.out) hb)
                    have n9_ := zm (Kd.V_below (by (with_reducible repeat first | apply ze1 | apply ze2 | apply ze3); exact HO_269002.out) hb)
                    have n10_ := zm (Kd.V_below (by (with_reducible repeat first | apply ze1 | apply ze2 | apply ze3); exact HO_269003.out) hb)
                    have n11_ := zm (Kd.V_below (by (with_reducible repeat first | apply ze1 | apply ze2 | apply ze3); exact HO_269004.out) hb)
                    have n12_ := zm (blk_below (g := gb198) (o := .cells #[.int .i64 a0_0, .int .i64 a0_1, .int .i64 a0_2, .int .i64 a0_3, .int .i64 a0_4, .slice A0_5 l0_5.length c0_5, .slice A0_6 l0_6.length c0_6, .slice A0_7 l0_7.length c0_7, .bool a0_8, .string a0_9, .int .i64 a0_10, .int .i64 a0_11, .int .i64 a0_12, .int .i64 a0_13, .int .i64 a0_14, .int .i64 a0_15, .int .i64 a0_16, .int .i64 a0_17, .slice A0_18 l0_18.length c0_18, .slice A0_19 l0_19.length c0_19, .slice A0_20 l0_20.length c0_20, .bool a0_21] 46 (0, 0)) (by (with_reducible repeat first | refine zk1 ?_ _ | refine zk2 ?_ | refine zk3 ?_ _); exact BK198.out) hb)
                    have n13_ := zm (blk_below (g := gb199) (o := .cells #[.int .i64 a0_0, .int .i64 a0_1, .int .i64 a0_2, .int .i64 a0_3, .int .i64 a0_4, .slice A0_5 l0_5.length c0_5, .slice A0_6 l0_6.length c0_6, .slice A0_7 l0_7.length c0_7, .bool a0_8] 34 (0, 0)) (by (with_reducible repeat first | refine zk1 ?_ _ | refine zk2 ?_ | refine zk3 ?_ _); exact BK199.out) hb)
                    have n14_ := zm (blk_below (g := gb200) (o := .cells #[.int .i64 a0_10, .int .i64 a0_11, .int .i64 a0_12] 23 (0, 0)) (by (with_reducible repeat first | refine zk1 ?_ _ | refine zk2 ?_ | refine zk3 ?_ _); exact BK200.out) hb)
                    have n15_ := zm (blk_below (g := gb201) (o := .cells #[.int .i64 a0_13, .int .i64 a0_14, .int .i64 a0_15, .int .i64 a0_16, .int .i64 a0_17, .slice A0_18 l0_18.length c0_18, .slice A0_19 l0_19.length c0_19, .slice A0_20 l0_20.length c0_20, .bool a0_21] 34 (0, 0)) (by (with_reducible repeat first | refine zk1 ?_ _ | refine zk2 ?_ | refine zk3 ?_ _); exact BK201.out) hb)
                    have n16_ := zm (blk_below (g := gb223) (o := .cells #[.int .i64 t207, .int .i64 t208, .int .i64 t209, .int .i64 t210, .int .i64 t211, .slice Ao38 t212.length co38, .slice Ao39 t215.length co39, .slice Ao40 t218.length co40, .bool t221] 34 (0, 0)) (by (with_reducible repeat first | refine zk1 ?_ _ | refine zk2 ?_ | refine zk3 ?_ _); exact BK223.out) hb)
                    have n17_ := zm (blk_below (g := gb240) (o := .cells #[.int .i64 t224, .int .i64 t225, .int .i64 t226, .int .i64 t227, .int .i64 t228, .slice Ao49 t229.length co49, .slice Ao50 t232.length co50, .slice Ao51 t235.length co51, .bool t238] 34 (0, 0)) (by (with_reducible repeat first | refine zk1 ?_ _ | refine zk2 ?_ | refine zk3 ?_ _); exact BK240.out) hb)
                    have n18_ := zm (blk_below (g := gb254) (o := .cells #[.int .i64 t241, .int .i64 t242, .slice Ao62 t243.length co62, .slice Ao63 t246.length co63, .slice Ao64 t249.length co64, .bool t252] 29 (0, 0)) (by (with_reducible repeat first | refine zk1 ?_ _ | refine zk2 ?_ | refine zk3 ?_ _); exact BK254.out) hb)
                    have n19_ := zm (blk_below (g := gb268) (o := .cells #[.int .i64 t255, .int .i64 t256, .slice Ao76 t257.length co76, .slice Ao77 t260.length co77, .slice Ao78 t263.length co78, .bool t266] 29 (0, 0)) (by (with_reducible repeat first | refine zk1 ?_ _ | refine zk2 ?_ | refine zk3 ?_ _); exact BK268.out) hb)
                    have n20_ := zm (below_step (by repeat (first | (with_reducible first | exact HB.out | apply zb1 | apply zb2 | apply zb3 | refine zb4 ?_ GE198.out | refine zb4 ?_ GE199.out | refine zb4 ?_ GE200.out | refine zb4 ?_ GE201.out | refine zb4 ?_ GE223.out | refine zb4 ?_ GE240.out | refine zb4 ?_ GE254.out | refine zb4 ?_ GE268.out) | exact HB.out)) hb)
                    clear HO_224005
                    clear HO_224006
                    clear HO_224007
                    clear HO_241005
                    clear HO_241006
                    clear HO_241007
                    clear HO_255002
                    clear HO_255003
                    clear HO_255004
                    clear HO_269002
                    clear HO_269003
                    clear HO_269004
                    clear BK198
                    clear BK199
                    clear BK200
                    clear BK201
                    clear BK223
                    clear BK240
                    clear BK254
                    clear BK268
                    clear HB
                    have HO_224005 := n0_
                    have HO_224006 := n1_
                    have HO_224007 := n2_
                    have HO_241005 := n3_
                    have HO_241006 := n4_
                    have HO_241007 := n5_
                    have HO_255002 := n6_
                    have HO_255003 := n7_
                    have HO_255004 := n8_
                    have HO_269002 := n9_
                    have HO_269003 := n10_
                    have HO_269004 := n11_
                    have BK198 := n12_
                    have BK199 := n13_
                    have BK200 := n14_
                    have BK201 := n15_
                    have BK223 := n16_
                    have BK240 := n17_
                    have BK254 := n18_
                    have BK268 := n19_
                    have HB := n20_
                    clear n0_ n1_ n2_ n3_ n4_ n5_ n6_ n7_ n8_ n9_ n10_ n11_ n12_ n13_ n14_ n15_ n16_ n17_ n18_ n19_ n20_
                    (try clear hb)
                    (try clear hb2)
                    (try clear hk)
                    (try clear hi)
                    refine hK.out _ _ ⟨(blk_cell BK199.out 0).trans rfl, (blk_cell BK199.out 1).trans rfl, (blk_cell BK199.out 2).trans rfl, (blk_cell BK199.out 3).trans rfl, (blk_cell BK199.out 4).trans rfl, (blk_cell BK199.out 5).trans rfl, (blk_cell BK199.out 6).trans rfl, (blk_cell BK199.out 7).trans rfl, (blk_cell BK199.out 8).trans rfl, (blk_cell BK201.out 0).trans rfl, (blk_cell BK201.out 1).trans rfl, (blk_cell BK201.out 2).trans rfl, (blk_cell BK201.out 3).trans rfl, (blk_cell BK201.out 4).trans rfl, (blk_cell BK201.out 5).trans rfl, (blk_cell BK201.out 6).trans rfl, (blk_cell BK201.out 7).trans rfl, (blk_cell BK201.out 8).trans rfl⟩ (fun hHeld => ?_)
                    clear hK K
                    refine norm_ (a' := ?_) ?_ ?_
                    rotate_left
                    · show Act.put _ (some 96) _ = _
                      simp only [Act.put, List.setIfInBounds_toArray, List.set_cons_zero, List.set_cons_succ, i64_w, i32_w]
                      rfl
                    refine one_ (i := 28) (N := some 98) #[true, true, true, true, true, true, true, true, true, true, true, true, true, true, true, true, true, true, true, true, true, true, true, true, true, true, true, true, true, false, false, false, false, false, false, false, false, false, false, false, false] rfl rfl (one_of HT_.out (by kernel_rfl)) (by decide) (fun K hK => ?_)
                    refine goes_ Tryd.func19 (by kernel_rfl) rfl #[.string a0_9] (by rfl) rfl rfl (by (try simp only [List.map_toArray, List.map_cons, List.map_nil]); first | done | rfl | (simp only [List.length_drop, List.length_take]; rfl)) ?_
                    with_reducible refine (tallystickref14_Sum.calls kj8 a0_9 t272 _ A133.out).mono ?_
                    rintro e w' ⟨rfl, ⟨nd, rfl⟩⟩
                    refine ⟨_, rfl, ?_⟩
                    refine hK.out _ _ ⟨(blk_cell BK199.out 0).trans rfl, (blk_cell BK199.out 1).trans rfl, (blk_cell BK199.out 2).trans rfl, (blk_cell BK199.out 3).trans rfl, (blk_cell BK199.out 4).trans rfl, (blk_cell BK199.out 5).trans rfl, (blk_cell BK199.out 6).trans rfl, (blk_cell BK199.out 7).trans rfl, (blk_cell BK199.out 8).trans rfl, (blk_cell BK201.out 0).trans rfl, (blk_cell BK201.out 1).trans rfl, (blk_cell BK201.out 2).trans rfl, (blk_cell BK201.out 3).trans rfl, (blk_cell BK201.out 4).trans rfl, (blk_cell BK201.out 5).trans rfl, (blk_cell BK201.out 6).trans rfl, (blk_cell BK201.out 7).trans rfl, (blk_cell BK201.out 8).trans rfl⟩ (fun hHeld => ?_)
                    clear hK K
                    refine norm_ (a' := ?_) ?_ ?_
                    rotate_left
                    · show Act.put _ (some 98) _ = _
                      simp only [Act.put, List.setIfInBounds_toArray, List.set_cons_zero, List.set_cons_succ, i64_w, i32_w]
                      rfl
                    refine pure_ (i := 29) (N := some 99) (v := ?_) (a' := ?_) #[true, true, true, true, true, true, true, true, true, true, true, true, true, true, true, true, true, true, true, true, true, true, true, true, true, true, true, true, true, true, false, false, false, false, false, false, false, false, false, false, false] rfl rfl (any_of HT_.out (by kernel_rfl)) (fun _ _ _ h => h) (Or.inl ⟨by rfl, ?_⟩) ?_ ?_
                    rotate_left
                    · intro w'
                      go_simp
                      with_reducible rfl
                    rotate_left
                    · simp only [Act.put, List.setIfInBounds_toArray, List.set_cons_zero, List.set_cons_succ, i64_w, i32_w]
                      rfl
                    refine pure_ (i := 30) (N := some 100) (v := ?_) (a' := ?_) #[true, true, true, true, true, true, true, true, true, true, true, true, true, true, true, true, true, true, true, true, true, true, true, true, true, true, true, true, true, true, true, false, false, false, false, false, false, false, false, false, false] rfl rfl (any_of HT_.out (by kernel_rfl)) (fun _ _ _ h => h) (Or.inl ⟨by rfl, ?_⟩) ?_ ?_
                    rotate_left
                    · intro w'
                      go_simp
                      with_reducible rfl
                    rotate_left
                    · simp only [Act.put, List.setIfInBounds_toArray, List.set_cons_zero, List.set_cons_succ, i64_w, i32_w]
                      rfl
                    refine pure_ (i := 31) (N := some 101) (v := ?_) (a' := ?_) #[true, true, true, true, true, true, true, true, true, true, true, true, true, true, true, true, true, true, true, true, true, true, true, true, true, true, true, true, true, true, true, true, false, false, false, false, false, false, false, false, false] rfl rfl (any_of HT_.out (by kernel_rfl)) (fun _ _ _ h => h) (Or.inl ⟨by rfl, ?_⟩) ?_ ?_
                    rotate_left
                    · intro w'
                      go_simp
                      with_reducible rfl
                    rotate_left
                    · simp only [Act.put, List.setIfInBounds_toArray, List.set_cons_zero, List.set_cons_succ, i64_w, i32_w]
                      rfl
                    refine take_ (i := 32) (N := some 102) (v := ?_) (a' := ?_) #[true, true, true, true, true, true, true, true, true, true, true, true, true, true, true, true, true, true, true, true, true, true, true, true, true, true, true, true, true, true, true, true, true, false, false, false, false, false, false, false, false] rfl rfl (take_ofW HT_.out HW_.out (by kernel_rfl)) (fun _ _ _ h => h) (Or.inl ⟨by rfl, ?_⟩) hHeld ?_ ?_
                    rotate_left
                    · rintro w' ⟨s0, s1, s2, s3, s4, s5, s6, s7, s8, s9, s10, s11, s12, s13, s14, s15, s16, s17⟩
                      go_simp
                      with_reducible rfl
                    rotate_left
                    · simp only [Act.put, List.setIfInBounds_toArray, List.set_cons_zero, List.set_cons_succ, i64_w, i32_w]
                      rfl
                    refine take_ (i := 33) (N := some 103) (v := ?_) (a' := ?_) #[true, true, true, true, true, true, true, true, true, true, true, true, true, true, true, true, true, true, true, true, true, true, true, true, true, true, true, true, true, true, true, true, true, true, false, false, false, false, false, false, false] rfl rfl (take_ofW HT_.out HW_.out (by kernel_rfl)) (fun _ _ _ h => h) (Or.inl ⟨by rfl, ?_⟩) hHeld ?_ ?_
                    rotate_left
                    · rintro w' ⟨s0, s1, s2, s3, s4, s5, s6, s7, s8, s9, s10, s11, s12, s13, s14, s15, s16, s17⟩
                      go_simp
                      with_reducible rfl
                    rotate_left
                    · simp only [Act.put, List.setIfInBounds_toArray, List.set_cons_zero, List.set_cons_succ, i64_w, i32_w]
                      rfl
                    refine take_ (i := 35) (N := some 105) (v := ?_) (a' := ?_) #[true, true, true, true, true, true, true, true, true, true, true, true, true, true, true, true, true, true, true, true, true, true, true, true, true, true, true, true, true, true, true, true, true, true, false, true, false, false, false, false, false] rfl rfl (take_ofW HT_.out HW_.out (by kernel_rfl)) (fun _ _ _ h => h) (Or.inl ⟨by rfl, ?_⟩) hHeld ?_ ?_
                    rotate_left
                    · rintro w' ⟨s0, s1, s2, s3, s4, s5, s6, s7, s8, s9, s10, s11, s12, s13, s14, s15, s16, s17⟩
                      go_simp
                      with_reducible rfl
                    rotate_left
                    · simp only [Act.put, List.setIfInBounds_toArray, List.set_cons_zero, List.set_cons_succ, i64_w, i32_w]
                      rfl
                    refine take_ (i := 36) (N := some 106) (v := ?_) (a' := ?_) #[true, true, true, true, true, true, true, true, true, true, true, true, true, true, true, true, true, true, true, true, true, true, true, true, true, true, true, true, true, true, true, true, true, true, false, true, true, false, false, false, false] rfl rfl (take_ofW HT_.out HW_.out (by kernel_rfl)) (fun _ _ _ h => h) (Or.inl ⟨by rfl, ?_⟩) hHeld ?_ ?_
                    rotate_left
                    · rintro w' ⟨s0, s1, s2, s3, s4, s5, s6, s7, s8, s9, s10, s11, s12, s13, s14, s15, s16, s17⟩
                      go_simp
                      with_reducible rfl
                    rotate_left
                    · simp only [Act.put, List.setIfInBounds_toArray, List.set_cons_zero, List.set_cons_succ, i64_w, i32_w]
                      rfl
                    refine one_ (i := 34) (N := some 104) #[true, true, true, true, true, true, true, true, true, true, true, true, true, true, true, true, true, true, true, true, true, true, true, true, true, true, true, true, true, true, true, true, true, true, true, true, true, false, false, false, false] rfl rfl (one_of HT_.out (by kernel_rfl)) (by decide) (fun K hK => ?_)
                    refine goes_ Tryd.func12 (by kernel_rfl) rfl #[.agg #[.int .i64 a0_0, .int .i64 a0_1, .int .i64 a0_2, .int .i64 a0_3, .int .i64 a0_4, .slice A0_5 l0_5.length c0_5, .slice A0_6 l0_6.length c0_6, .slice A0_7 l0_7.length c0_7, .bool a0_8], .agg #[.int .i64 a0_13, .int .i64 a0_14, .int .i64 a0_15, .int .i64 a0_16, .int .i64 a0_17, .slice A0_18 l0_18.length c0_18, .slice A0_19 l0_19.length c0_19, .slice A0_20 l0_20.length c0_20, .bool a0_21]] (by rfl) rfl rfl (by (try simp only [List.map_toArray, List.map_cons, List.map_nil]); first | done | rfl | (simp only [List.length_drop, List.length_take]; rfl)) ?_
                    with_reducible refine (crc_Same.calls kj8 a0_0 a0_1 a0_2 a0_3 a0_4 _ _ l0_5 _ _ l0_6 _ _ l0_7 a0_8 a0_13 a0_14 a0_15 a0_16 a0_17 _ _ l0_18 _ _ l0_19 _ _ l0_20 a0_21 t273 _ ?side1 ?side2 ?side3 ?side4 ?side5 ?side6 ?side7 ?side8 ?side9 ?side10 ?side11 ?side12 A135.out).mono ?_
                    (case side1 => repeat (first | exact (Kd.C_below HR0_5.out (by repeat (first | (with_reducible first | exact HB.out | apply zb1 | apply zb2 | apply zb3 | refine zb4 ?_ GE198.out | refine zb4 ?_ GE199.out | refine zb4 ?_ GE200.out | refine zb4 ?_ GE201.out | refine zb4 ?_ GE223.out | refine zb4 ?_ GE240.out | refine zb4 ?_ GE254.out | refine zb4 ?_ GE268.out) | exact HB.out))) | (with_reducible refine Kd.C_alloc ?_ _) | (with_reducible refine Kd.C_drewN ?_ _) | (with_reducible refine Kd.C_drew ?_)))
                    (case side2 => exact HC0_5.out)
                    (case side3 => repeat (first | exact (Kd.C_below HR0_6.out (by repeat (first | (with_reducible first | exact HB.out | apply zb1 | apply zb2 | apply zb3 | refine zb4 ?_ GE198.out | refine zb4 ?_ GE199.out | refine zb4 ?_ GE200.out | refine zb4 ?_ GE201.out | refine zb4 ?_ GE223.out | refine zb4 ?_ GE240.out | refine zb4 ?_ GE254.out | refine zb4 ?_ GE268.out) | exact HB.out))) | (with_reducible refine Kd.C_alloc ?_ _) | (with_reducible refine Kd.C_drewN ?_ _) | (with_reducible refine Kd.C_drew ?_)))
                    (case side4 => exact HC0_6.out)
                    (case side5 => repeat (first | exact (Kd.C_below HR0_7.out (by repeat (first | (with_reducible first | exact HB.out | apply zb1 | apply zb2 | apply zb3 | refine zb4 ?_ GE198.out | refine zb4 ?_ GE199.out | refine zb4 ?_ GE200.out | refine zb4 ?_ GE201.out | refine zb4 ?_ GE223.out | refine zb4 ?_ GE240.out | refine zb4 ?_ GE254.out | refine zb4 ?_ GE268.out) | exact HB.out))) | (with_reducible refine Kd.C_alloc ?_ _) | (with_reducible refine Kd.C_drewN ?_ _) | (with_reducible refine Kd.C_drew ?_)))
                    (case side6 => exact HC0_7.out)
                    (case side7 => repeat (first | exact (Kd.C_below HR0_18.out (by repeat (first | (with_reducible first | exact HB.out | apply zb1 | apply zb2 | apply zb3 | refine zb4 ?_ GE198.out | refine zb4 ?_ GE199.out | refine zb4 ?_ GE200.out | refine zb4 ?_ GE201.out | refine zb4 ?_ GE223.out | refine zb4 ?_ GE240.out | refine zb4 ?_ GE254.out | refine zb4 ?_ GE268.out) | exact HB.out))) | (with_reducible refine Kd.C_alloc ?_ _) | (with_reducible refine Kd.C_drewN ?_ _) | (with_reducible refine Kd.C_drew ?_)))
                    (case side8 => exact HC0_18.out)
                    (case side9 => repeat (first | exact (Kd.C_below HR0_19.out (by repeat (first | (with_reducible first | exact HB.out | apply zb1 | apply zb2 | apply zb3 | refine zb4 ?_ GE198.out | refine zb4 ?_ GE199.out | refine zb4 ?_ GE200.out | refine zb4 ?_ GE201.out | refine zb4 ?_ GE223.out | refine zb4 ?_ GE240.out | refine zb4 ?_ GE254.out | refine zb4 ?_ GE268.out) | exact HB.out))) | (with_reducible refine Kd.C_alloc ?_ _) | (with_reducible refine Kd.C_drewN ?_ _) | (with_reducible refine Kd.C_drew ?_)))
                    (case side10 => exact HC0_19.out)
                    (case side11 => repeat (first | exact (Kd.C_below HR0_20.out (by repeat (first | (with_reducible first | exact HB.out | apply zb1 | apply zb2 | apply zb3 | refine zb4 ?_ GE198.out | refine zb4 ?_ GE199.out | refine zb4 ?_ GE200.out | refine zb4 ?_ GE201.out | refine zb4 ?_ GE223.out | refine zb4 ?_ GE240.out | refine zb4 ?_ GE254.out | refine zb4 ?_ GE268.out) | exact HB.out))) | (with_reducible refine Kd.C_alloc ?_ _) | (with_reducible refine Kd.C_drewN ?_ _) | (with_reducible refine Kd.C_drew ?_)))
                    (case side12 => exact HC0_20.out)
                    rintro e w139 ⟨rfl, hb⟩
                    refine ⟨_, rfl, ?_⟩
                    have n0_ := zm (Kd.V_below (by (with_reducible repeat first | apply ze1 | apply ze2 | apply ze3); exact HO_224005.out) hb)
                    have n1_ := zm (Kd.V_below (by (with_reducible repeat first | apply ze1 | apply ze2 | apply ze3); exact HO_224006.out) hb)
                    have n2_ := zm (Kd.V_below (by (with_reducible repeat first | apply ze1 | apply ze2 | apply ze3); exact HO_224007.out) hb)
                    have n3_ := zm (Kd.V_below (by (with_reducible repeat first | apply ze1 | apply ze2 | apply ze3); exact HO_241005.out) hb)
                    have n4_ := zm (Kd.V_below (by (with_reducible repeat first | apply ze1 | apply ze2 | apply ze3); exact HO_241006.out) hb)
                    have n5_ := zm (Kd.V_below (by (with_reducible repeat first | apply ze1 | apply ze2 | apply ze3); exact HO_241007.out) hb)
                    have n6_ := zm (Kd.V_below (by (with_reducible repeat first | apply ze1 | apply ze2 | apply ze3); exact HO_255002.out) hb)
                    have n7_ := zm (Kd.V_below (by (with_reducible repeat first | apply ze1 | apply ze2 | apply ze3); exact HO_255003.out) hb)
                    have n8_ := zm (Kd.V_below (by (with_reducible repeat first | apply ze1 | apply ze2 | apply ze3); exact HO_255004.out) hb)
                    have n9_ := zm (Kd.V_below (by (with_reducible repeat first | apply ze1 | apply ze2 | apply ze3); exact HO_269002.out) hb)
                    have n10_ := zm (Kd.V_below (by (with_reducible repeat first | apply ze1 | apply ze2 | apply ze3); exact HO_269003.out) hb)
                    have n11_ := zm (Kd.V_below (by (with_reducible repeat first | apply ze1 | apply ze2 | apply ze3); exact HO_269004.out) hb)
                    have n12_ := zm (blk_below (g := gb198) (o := .cells #[.int .i64 a0_0, .int .i64 a0_1, .int .i64 a0_2, .int .i64 a0_3, .int .i64 a0_4, .slice A0_5 l0_5.length c0_5, .slice A0_6 l0_6.length c0_6, .slice A0_7 l0_7.length c0_7, .bool a0_8, .string a0_9, .int .i64 a0_10, .int .i64 a0_11, .int .i64 a0_12, .int .i64 a0_13, .int .i64 a0_14, .int .i64 a0_15, .int .i64 a0_16, .int .i64 a0_17, .slice A0_18 l0_18.length c0_18, .slice A0_19 l0_19.length c0_19, .slice A0_20 l0_20.length c0_20, .bool a0_21] 46 (0, 0)) (by (with_reducible repeat first | refine zk1 ?_ _ | refine zk2 ?_ | refine zk3 ?_ _); exact BK198.out) hb)
                    have n13_ := zm (blk_below (g := gb199) (o := .cells #[.int .i64 a0_0, .int .i64 a0_1, .int .i64 a0_2, .int .i64 a0_3, .int .i64 a0_4, .slice A0_5 l0_5.length c0_5, .slice A0_6 l0_6.length c0_6, .slice A0_7 l0_7.length c0_7, .bool a0_8] 34 (0, 0)) (by (with_reducible repeat first | refine zk1 ?_ _ | refine zk2 ?_ | refine zk3 ?_ _); exact BK199.out) hb)
                    have n14_ := zm (blk_below (g := gb200) (o := .cells #[.int .i64 a0_10, .int .i64 a0_11, .int .i64 a0_12] 23 (0, 0)) (by (with_reducible repeat first | refine zk1 ?_ _ | refine zk2 ?_ | refine zk3 ?_ _); exact BK200.out) hb)
                    have n15_ := zm (blk_below (g := gb201) (o := .cells #[.int .i64 a0_13, .int .i64 a0_14, .int .i64 a0_15, .int .i64 a0_16, .int .i64 a0_17, .slice A0_18 l0_18.length c0_18, .slice A0_19 l0_19.length c0_19, .slice A0_20 l0_20.length c0_20, .bool a0_21] 34 (0, 0)) (by (with_reducible repeat first | refine zk1 ?_ _ | refine zk2 ?_ | refine zk3 ?_ _); exact BK201.out) hb)
                    have n16_ := zm (blk_below (g := gb223) (o := .cells #[.int .i64 t207, .int .i64 t208, .int .i64 t209, .int .i64 t210, .int .i64 t211, .slice Ao38 t212.length co38, .slice Ao39 t215.length co39, .slice Ao40 t218.length co40, .bool t221] 34 (0, 0)) (by (with_reducible repeat first | refine zk1 ?_ _ | refine zk2 ?_ | refine zk3 ?_ _); exact BK223.out) hb)
                    have n17_ := zm (blk_below (g := gb240) (o := .cells #[.int .i64 t224, .int .i64 t225, .int .i64 t226, .int .i64 t227, .int .i64 t228, .slice Ao49 t229.length co49, .slice Ao50 t232.length co50, .slice Ao51 t235.length co51, .bool t238] 34 (0, 0)) (by (with_reducible repeat first | refine zk1 ?_ _ | refine zk2 ?_ | refine zk3 ?_ _); exact BK240.out) hb)
                    have n18_ := zm (blk_below (g := gb254) (o := .cells #[.int .i64 t241, .int .i64 t242, .slice Ao62 t243.length co62, .slice Ao63 t246.length co63, .slice Ao64 t249.length co64, .bool t252] 29 (0, 0)) (by (with_reducible repeat first | refine zk1 ?_ _ | refine zk2 ?_ | refine zk3 ?_ _); exact BK254.out) hb)
                    have n19_ := zm (blk_below (g := gb268) (o := .cells #[.int .i64 t255, .int .i64 t256, .slice Ao76 t257.length co76, .slice Ao77 t260.length co77, .slice Ao78 t263.length co78, .bool t266] 29 (0, 0)) (by (with_reducible repeat first | refine zk1 ?_ _ | refine zk2 ?_ | refine zk3 ?_ _); exact BK268.out) hb)
                    have n20_ := zm (below_step (by repeat (first | (with_reducible first | exact HB.out | apply zb1 | apply zb2 | apply zb3 | refine zb4 ?_ GE198.out | refine zb4 ?_ GE199.out | refine zb4 ?_ GE200.out | refine zb4 ?_ GE201.out | refine zb4 ?_ GE223.out | refine zb4 ?_ GE240.out | refine zb4 ?_ GE254.out | refine zb4 ?_ GE268.out) | exact HB.out)) hb)
                    clear HO_224005
                    clear HO_224006
                    clear HO_224007
                    clear HO_241005
                    clear HO_241006
                    clear HO_241007
                    clear HO_255002
                    clear HO_255003
                    clear HO_255004
                    clear HO_269002
                    clear HO_269003
                    clear HO_269004
                    clear BK198
                    clear BK199
                    clear BK200
                    clear BK201
                    clear BK223
                    clear BK240
                    clear BK254
                    clear BK268
                    clear HB
                    have HO_224005 := n0_
                    have HO_224006 := n1_
                    have HO_224007 := n2_
                    have HO_241005 := n3_
                    have HO_241006 := n4_
                    have HO_241007 := n5_
                    have HO_255002 := n6_
                    have HO_255003 := n7_
                    have HO_255004 := n8_
                    have HO_269002 := n9_
                    have HO_269003 := n10_
                    have HO_269004 := n11_
                    have BK198 := n12_
                    have BK199 := n13_
                    have BK200 := n14_
                    have BK201 := n15_
                    have BK223 := n16_
                    have BK240 := n17_
                    have BK254 := n18_
                    have BK268 := n19_
                    have HB := n20_
                    clear n0_ n1_ n2_ n3_ n4_ n5_ n6_ n7_ n8_ n9_ n10_ n11_ n12_ n13_ n14_ n15_ n16_ n17_ n18_ n19_ n20_
                    (try clear hb)
                    (try clear hb2)
                    (try clear hk)
                    (try clear hi)
                    refine hK.out _ _ ⟨(blk_cell BK199.out 0).trans rfl, (blk_cell BK199.out 1).trans rfl, (blk_cell BK199.out 2).trans rfl, (blk_cell BK199.out 3).trans rfl, (blk_cell BK199.out 4).trans rfl, (blk_cell BK199.out 5).trans rfl, (blk_cell BK199.out 6).trans rfl, (blk_cell BK199.out 7).trans rfl, (blk_cell BK199.out 8).trans rfl, (blk_cell BK201.out 0).trans rfl, (blk_cell BK201.out 1).trans rfl, (blk_cell BK201.out 2).trans rfl, (blk_cell BK201.out 3).trans rfl, (blk_cell BK201.out 4).trans rfl, (blk_cell BK201.out 5).trans rfl, (blk_cell BK201.out 6).trans rfl, (blk_cell BK201.out 7).trans rfl, (blk_cell BK201.out 8).trans rfl⟩ (fun hHeld => ?_)
                    clear hK K
                    refine norm_ (a' := ?_) ?_ ?_
                    rotate_left
                    · show Act.put _ (some 104) _ = _
                      simp only [Act.put, List.setIfInBounds_toArray, List.set_cons_zero, List.set_cons_succ, i64_w, i32_w]
                      rfl
                    refine one_ (i := 37) (N := some 107) #[true, true, true, true, true, true, true, true, true, true, true, true, true, true, true, true, true, true, true, true, true, true, true, true, true, true, true, true, true, true, true, true, true, true, true, true, true, true, false, false, false] rfl rfl (one_of HT_.out (by kernel_rfl)) (by decide) (fun K hK => ?_)
                    refine goes_ Tryd.func16 (by kernel_rfl) rfl #[.agg #[.int .i64 a0_0, .int .i64 a0_1, .int .i64 a0_2, .int .i64 a0_3, .int .i64 a0_4, .slice A0_5 l0_5.length c0_5, .slice A0_6 l0_6.length c0_6, .slice A0_7 l0_7.length c0_7, .bool a0_8], .agg #[.int .i64 a0_13, .int .i64 a0_14, .int .i64 a0_15, .int .i64 a0_16, .int .i64 a0_17, .slice A0_18 l0_18.length c0_18, .slice A0_19 l0_19.length c0_19, .slice A0_20 l0_20.length c0_20, .bool a0_21]] (by rfl) rfl rfl (by (try simp only [List.map_toArray, List.map_cons, List.map_nil]); first | done | rfl | (simp only [List.length_drop, List.length_take]; rfl)) ?_
                    with_reducible refine (tallystickref14_Same.calls kj8 a0_0 a0_1 a0_2 a0_3 a0_4 _ _ l0_5 _ _ l0_6 _ _ l0_7 a0_8 a0_13 a0_14 a0_15 a0_16 a0_17 _ _ l0_18 _ _ l0_19 _ _ l0_20 a0_21 t274 _ ?side1 ?side2 ?side3 ?side4 ?side5 ?side6 ?side7 ?side8 ?side9 ?side10 ?side11 ?side12 A136.out).mono ?_
                    (case side1 => repeat (first | exact (Kd.C_below HR0_5.out HB.out) | (with_reducible refine Kd.C_alloc ?_ _) | (with_reducible refine Kd.C_drewN ?_ _) | (with_reducible refine Kd.C_drew ?_)))
                    (case side2 => exact HC0_5.out)
                    (case side3 => repeat (first | exact (Kd.C_below HR0_6.out HB.out) | (with_reducible refine Kd.C_alloc ?_ _) | (with_reducible refine Kd.C_drewN ?_ _) | (with_reducible refine Kd.C_drew ?_)))
                    (case side4 => exact HC0_6.out)
                    (case side5 => repeat (first | exact (Kd.C_below HR0_7.out HB.out) | (with_reducible refine Kd.C_alloc ?_ _) | (with_reducible refine Kd.C_drewN ?_ _) | (with_reducible refine Kd.C_drew ?_)))
                    (case side6 => exact HC0_7.out)
                    (case side7 => repeat (first | exact (Kd.C_below HR0_18.out HB.out) | (with_reducible refine Kd.C_alloc ?_ _) | (with_reducible refine Kd.C_drewN ?_ _) | (with_reducible refine Kd.C_drew ?_)))
                    (case side8 => exact HC0_18.out)
                    (case side9 => repeat (first | exact (Kd.C_below HR0_19.out HB.out) | (with_reducible refine Kd.C_alloc ?_ _) | (with_reducible refine Kd.C_drewN ?_ _) | (with_reducible refine Kd.C_drew ?_)))
                    (case side10 => exact HC0_19.out)
                    (case side11 => repeat (first | exact (Kd.C_below HR0_20.out HB.out) | (with_reducible refine Kd.C_alloc ?_ _) | (with_reducible refine Kd.C_drewN ?_ _) | (with_reducible refine Kd.C_drew ?_)))
                    (case side12 => exact HC0_20.out)
                    rintro e w140 ⟨rfl, hb⟩
                    refine ⟨_, rfl, ?_⟩
                    have n0_ := zm (Kd.V_below (by (with_reducible repeat first | apply ze1 | apply ze2 | apply ze3); exact HO_224005.out) hb)
                    have n1_ := zm (Kd.V_below (by (with_reducible repeat first | apply ze1 | apply ze2 | apply ze3); exact HO_224006.out) hb)
                    have n2_ := zm (Kd.V_below (by (with_reducible repeat first | apply ze1 | apply ze2 | apply ze3); exact HO_224007.out) hb)
                    have n3_ := zm (Kd.V_below (by (with_reducible repeat first | apply ze1 | apply ze2 | apply ze3); exact HO_241005.out) hb)
                    have n4_ := zm (Kd.V_below (by (with_reducible repeat first | apply ze1 | apply ze2 | apply ze3); exact HO_241006.out) hb)
                    have n5_ := zm (Kd.V_below (by (with_reducible repeat first | apply ze1 | apply ze2 | apply ze3); exact HO_241007.out) hb)
                    have n6_ := zm (Kd.V_below (by (with_reducible repeat first | apply ze1 | apply ze2 | apply ze3); exact HO_255002.out) hb)
                    have n7_ := zm (Kd.V_below (by (with_reducible repeat first | apply ze1 | apply ze2 | apply ze3); exact HO_255003.out) hb)
                    have n8_ := zm (Kd.V_below (by (with_reducible repeat first | apply ze1 | apply ze2 | apply ze3); exact HO_255004.out) hb)
                    have n9_ := zm (Kd.V_below (by (with_reducible repeat first | apply ze1 | apply ze2 | apply ze3); exact HO_269002.out) hb)
                    have n10_ := zm (Kd.V_below (by (with_reducible repeat first | apply ze1 | apply ze2 | apply ze3); exact HO_269003.out) hb)
                    have n11_ := zm (Kd.V_below (by (with_reducible repeat first | apply ze1 | apply ze2 | apply ze3); exact HO_269004.out) hb)
                    have n12_ := zm (blk_below (g := gb198) (o := .cells #[.int .i64 a0_0, .int .i64 a0_1, .int .i64 a0_2, .int .i64 a0_3, .int .i64 a0_4, .slice A0_5 l0_5.length c0_5, .slice A0_6 l0_6.length c0_6, .slice A0_7 l0_7.length c0_7, .bool a0_8, .string a0_9, .int .i64 a0_10, .int .i64 a0_11, .int .i64 a0_12, .int .i64 a0_13, .int .i64 a0_14, .int .i64 a0_15, .int .i64 a0_16, .int .i64 a0_17, .slice A0_18 l0_18.length c0_18, .slice A0_19 l0_19.length c0_19, .slice A0_20 l0_20.length c0_20, .bool a0_21] 46 (0, 0)) (by (with_reducible repeat first | refine zk1 ?_ _ | refine zk2 ?_ | refine zk3 ?_ _); exact BK198.out) hb)
                    have n13_ := zm (blk_below (g := gb199) (o := .cells #[.int .i64 a0_0, .int .i64 a0_1, .int .i64 a0_2, .int .i64 a0_3, .int .i64 a0_4, .slice A0_5 l0_5.length c0_5, .slice A0_6 l0_6.length c0_6, .slice A0_7 l0_7.length c0_7, .bool a0_8] 34 (0, 0)) (by (with_reducible repeat first | refine zk1 ?_ _ | refine zk2 ?_ | refine zk3 ?_ _); exact BK199.out) hb)
                    have n14_ := zm (blk_below (g := gb200) (o := .cells #[.int .i64 a0_10, .int .i64 a0_11, .int .i64 a0_12] 23 (0, 0)) (by (with_reducible repeat first | refine zk1 ?_ _ | refine zk2 ?_ | refine zk3 ?_ _); exact BK200.out) hb)
                    have n15_ := zm (blk_below (g := gb201) (o := .cells #[.int .i64 a0_13, .int .i64 a0_14, .int .i64 a0_15, .int .i64 a0_16, .int .i64 a0_17, .slice A0_18 l0_18.length c0_18, .slice A0_19 l0_19.length c0_19, .slice A0_20 l0_20.length c0_20, .bool a0_21] 34 (0, 0)) (by (with_reducible repeat first | refine zk1 ?_ _ | refine zk2 ?_ | refine zk3 ?_ _); exact BK201.out) hb)
                    have n16_ := zm (blk_below (g := gb223) (o := .cells #[.int .i64 t207, .int .i64 t208, .int .i64 t209, .int .i64 t210, .int .i64 t211, .slice Ao38 t212.length co38, .slice Ao39 t215.length co39, .slice Ao40 t218.length co40, .bool t221] 34 (0, 0)) (by (with_reducible repeat first | refine zk1 ?_ _ | refine zk2 ?_ | refine zk3 ?_ _); exact BK223.out) hb)
                    have n17_ := zm (blk_below (g := gb240) (o := .cells #[.int .i64 t224, .int .i64 t225, .int .i64 t226, .int .i64 t227, .int .i64 t228, .slice Ao49 t229.length co49, .slice Ao50 t232.length co50, .slice Ao51 t235.length co51, .bool t238] 34 (0, 0)) (by (with_reducible repeat first | refine zk1 ?_ _ | refine zk2 ?_ | refine zk3 ?_ _); exact BK240.out) hb)
                    have n18_ := zm (blk_below (g := gb254) (o := .cells #[.int .i64 t241, .int .i64 t242, .slice Ao62 t243.length co62, .slice Ao63 t246.length co63, .slice Ao64 t249.length co64, .bool t252] 29 (0, 0)) (by (with_reducible repeat first | refine zk1 ?_ _ | refine zk2 ?_ | refine zk3 ?_ _); exact BK254.out) hb)
                    have n19_ := zm (blk_below (g := gb268) (o := .cells #[.int .i64 t255, .int .i64 t256, .slice Ao76 t257.length co76, .slice Ao77 t260.length co77, .slice Ao78 t263.length co78, .bool t266] 29 (0, 0)) (by (with_reducible repeat first | refine zk1 ?_ _ | refine zk2 ?_ | refine zk3 ?_ _); exact BK268.out) hb)
                    have n20_ := zm (below_step (by repeat (first | (with_reducible first | exact HB.out | apply zb1 | apply zb2 | apply zb3 | refine zb4 ?_ GE198.out | refine zb4 ?_ GE199.out | refine zb4 ?_ GE200.out | refine zb4 ?_ GE201.out | refine zb4 ?_ GE223.out | refine zb4 ?_ GE240.out | refine zb4 ?_ GE254.out | refine zb4 ?_ GE268.out) | exact HB.out)) hb)
                    clear HO_224005
                    clear HO_224006
                    clear HO_224007
                    clear HO_241005
                    clear HO_241006
                    clear HO_241007
                    clear HO_255002
                    clear HO_255003
                    clear HO_255004
                    clear HO_269002
                    clear HO_269003
                    clear HO_269004
                    clear BK198
                    clear BK199
                    clear BK200
                    clear BK201
                    clear BK223
                    clear BK240
                    clear BK254
                    clear BK268
                    clear HB
                    have HO_224005 := n0_
                    have HO_224006 := n1_
                    have HO_224007 := n2_
                    have HO_241005 := n3_
                    have HO_241006 := n4_
                    have HO_241007 := n5_
                    have HO_255002 := n6_
                    have HO_255003 := n7_
                    have HO_255004 := n8_
                    have HO_269002 := n9_
                    have HO_269003 := n10_
                    have HO_269004 := n11_
                    have BK198 := n12_
                    have BK199 := n13_
                    have BK200 := n14_
                    have BK201 := n15_
                    have BK223 := n16_
                    have BK240 := n17_
                    have BK254 := n18_
                    have BK268 := n19_
                    have HB := n20_
                    clear n0_ n1_ n2_ n3_ n4_ n5_ n6_ n7_ n8_ n9_ n10_ n11_ n12_ n13_ n14_ n15_ n16_ n17_ n18_ n19_ n20_
                    (try clear hb)
                    (try clear hb2)
                    (try clear hk)
                    (try clear hi)
                    refine hK.out _ _ ⟨(blk_cell BK199.out 0).trans rfl, (blk_cell BK199.out 1).trans rfl, (blk_cell BK199.out 2).trans rfl, (blk_cell BK199.out 3).trans rfl, (blk_cell BK199.out 4).trans rfl, (blk_cell BK199.out 5).trans rfl, (blk_cell BK199.out 6).trans rfl, (blk_cell BK199.out 7).trans rfl, (blk_cell BK199.out 8).trans rfl, (blk_cell BK201.out 0).trans rfl, (blk_cell BK201.out 1).trans rfl, (blk_cell BK201.out 2).trans rfl, (blk_cell BK201.out 3).trans rfl, (blk_cell BK201.out 4).trans rfl, (blk_cell BK201.out 5).trans rfl, (blk_cell BK201.out 6).trans rfl, (blk_cell BK201.out 7).trans rfl, (blk_cell BK201.out 8).trans rfl⟩ (fun hHeld => ?_)
                    clear hK K
                    refine norm_ (a' := ?_) ?_ ?_
                    rotate_left
                    · show Act.put _ (some 107) _ = _
                      simp only [Act.put, List.setIfInBounds_toArray, List.set_cons_zero, List.set_cons_succ, i64_w, i32_w]
                      rfl
                    refine pure_ (i := 38) (N := some 108) (v := ?_) (a' := ?_) #[true, true, true, true, true, true, true, true, true, true, true, true, true, true, true, true, true, true, true, true, true, true, true, true, true, true, true, true, true, true, true, true, true, true, true, true, true, true, true, false, false] rfl rfl (any_of HT_.out (by kernel_rfl)) (fun _ _ _ h => h) (Or.inl ⟨by rfl, ?_⟩) ?_ ?_
                    rotate_left
                    · intro w'
                      go_simp
                      with_reducible rfl
                    rotate_left
                    · simp only [Act.put, List.setIfInBounds_toArray, List.set_cons_zero, List.set_cons_succ, i64_w, i32_w]
                      rfl
                    refine pure_ (i := 39) (N := some 109) (v := ?_) (a' := ?_) #[true, true, true, true, true, true, true, true, true, true, true, true, true, true, true, true, true, true, true, true, true, true, true, true, true, true, true, true, true, true, true, true, true, true, true, true, true, true, true, true, false] rfl rfl (any_of HT_.out (by kernel_rfl)) (fun _ _ _ h => h) (Or.inl ⟨by rfl, ?_⟩) ?_ ?_
                    rotate_left
                    · intro w'
                      go_simp
                      with_reducible rfl
                    rotate_left
                    · simp only [Act.put, List.setIfInBounds_toArray, List.set_cons_zero, List.set_cons_succ, i64_w, i32_w]
                      rfl
                    refine pure_ (i := 40) (N := some 2) (v := ?_) (a' := ?_) #[true, true, true, true, true, true, true, true, true, true, true, true, true, true, true, true, true, true, true, true, true, true, true, true, true, true, true, true, true, true, true, true, true, true, true, true, true, true, true, true, true] rfl rfl (any_of HT_.out (by kernel_rfl)) (fun _ _ _ h => h) (Or.inl ⟨by rfl, ?_⟩) ?_ ?_
                    rotate_left
                    · intro w'
                      go_simp
                      with_reducible rfl
                    rotate_left
                    · simp only [Act.put, List.setIfInBounds_toArray, List.set_cons_zero, List.set_cons_succ, i64_w, i32_w]
                      rfl
                    refine done_ (done_of HT_.out (by kernel_rfl)) ?_
                    try go_wp2
                    go_ret
                    exact ⟨by first | rfl | (simp [errW_none, errW_some] <;> rfl) | (simp [*, errW_none, errW_some] <;> rfl), by repeat (first | (with_reducible first | exact HB.out | apply zb1 | apply zb2 | apply zb3 | refine zb4 ?_ GE198.out | refine zb4 ?_ GE199.out | refine zb4 ?_ GE200.out | refine zb4 ?_ GE201.out | refine zb4 ?_ GE223.out | refine zb4 ?_ GE240.out | refine zb4 ?_ GE254.out | refine zb4 ?_ GE268.out) | exact HB.out)⟩
                  · rw [if_neg c134] at H
                    have c134b0 : (t271 == t272) = false := beq_eq_false_iff_ne.mpr c134
                    have c134b1 : (t271 != t272) = true := bne_iff_ne.mpr c134
                    obtain rfl := Option.some.inj H
                    exact absurd hr_.out (by simp)
                · rw [if_neg c131] at H
                  have c131b0 : (t253 == t267) = false := beq_eq_false_iff_ne.mpr c131
                  have c131b1 : (t253 != t267) = true := bne_iff_ne.mpr c131
                  obtain rfl := Option.some.inj H
                  exact absurd hr_.out (by simp)
              · rw [if_neg c130] at H
                have c130b0 : (t222 == t239) = false := beq_eq_false_iff_ne.mpr c130
                have c130b1 : (t222 != t239) = true := bne_iff_ne.mpr c130
                obtain rfl := Option.some.inj H
                exact absurd hr_.out (by simp)
            · replace c129 := Bool.eq_false_iff.mpr c129
              subst c129
              have H1 : (some false) = some r := by rw [if_neg (show ¬ (false = true) by decide)] at H; exact H
              clear H
              have H := H1
              clear H1
              obtain rfl := Option.some.inj H
              exact absurd hr_.out (by simp)
          · rw [if_neg c128] at H
            have c128b0 : (t204 == t206) = false := beq_eq_false_iff_ne.mpr c128
            have c128b1 : (t204 != t206) = true := bne_iff_ne.mpr c128
            obtain rfl := Option.some.inj H
            exact absurd hr_.out (by simp)
        · rw [if_neg c127] at H
          have c127b0 : (t203.toList == t205.toList) = false := beq_eq_false_iff_ne.mpr c127
          have c127b1 : (t203.toList != t205.toList) = true := bne_iff_ne.mpr c127
          obtain rfl := Option.some.inj H
          exact absurd hr_.out (by simp)
      · replace c126 := Bool.eq_false_iff.mpr c126
        subst c126
        have H1 : (some false) = some r := by rw [if_neg (show ¬ (false = true) by decide)] at H; exact H
        clear H
        have H := H1
        clear H1
        obtain rfl := Option.some.inj H
        exact absurd hr_.out (by simp)

end Go.Proofs.YtanjahakoadecaaDoor.Pd

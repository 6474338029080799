-- Written by pp.py, a program of this session, over the translation of the given program; a machine's text: Lean checks it.
import Derived.Test.YtcflacjidabppaaGShort
import Derived.Test.YtcflacjidabppaaF24
import Derived.Test.YtcflacjidabppaaF25
import Derived.Test.YtcflacjidabppaaGAwake
import Derived.Test.YtcflacjidabppaaGPlan
import Derived.Test.YtcflacjidabppaaGSmall
namespace Go.Proofs.Ytcflacjidabppaa.Pr
open Go.RowKit Go.Proofs.YtcflacjidabppaaW.PrintWords Go.Proofs.YtcflacjidabppaaW.PrintLast Go.Proofs.YtcflacjidabppaaW.PrintMore
attribute [local go_sem] max2_int min2_int max_two min_two max_three min_three max_four min_four   -- for this text's walks alone
set_option linter.unusedVariables false
set_option linter.unusedSimpArgs false

/-! ### standbylaw56_PlannerSimulates: function 5 -/
mutual
def standbylaw56_PlannerSimulates.l0 : Nat → Int → Int → List Int → List Int → Int → Int → List Int → List Int → Int → Int → Int → List Int → List Int → List Int → List Int → Int → Option (Bool)
 | 0, _, _, _, _, _, _, _, _, _, _, _, _, _, _, _, _ => none
 | k + 1, x5, x6, x7, x8, x59, x60, x291000, x291001, x291002, x291003, x291004, x308000, x308001, x308002, x308003, x308004 => if x60 < x59 then (if 0 ≤ x60 then (if x60 < (x8.length : Int) then (standbylaw56_PlannerSimulates.l0 k x5 x6 x7 (x8.set (x60 : Int).toNat (-1)) x59 (wrap64 (x60 + 1)) x291000 x291001 x291002 x291003 x291004 x308000 x308001 x308002 x308003 x308004) else (none)) else (none)) else (standbylaw56_PlannerSimulates.l1 k x5 x6 x7 x8 0 0 0 x6 0 x291000 x291001 x291002 x291003 x291004 x308000 x308001 x308002 x308003 x308004)
def standbylaw56_PlannerSimulates.l1 : Nat → Int → Int → List Int → List Int → Int → Int → Int → Int → Int → List Int → List Int → Int → Int → Int → List Int → List Int → List Int → List Int → Int → Option (Bool)
 | 0, _, _, _, _, _, _, _, _, _, _, _, _, _, _, _, _, _, _, _ => none
 | k + 1, x5, x6, x7, x8, x10, x11, x12, x13, x14, x291000, x291001, x291002, x291003, x291004, x308000, x308001, x308002, x308003, x308004 => if x13 > 0 then (standbylaw56_PlannerSimulates.j2 k x5 x6 x7 x8 x10 x11 x12 x13 x14 (decide (x14 < 3000)) x291000 x291001 x291002 x291003 x291004 x308000 x308001 x308002 x308003 x308004) else (standbylaw56_PlannerSimulates.j2 k x5 x6 x7 x8 x10 x11 x12 x13 x14 false x291000 x291001 x291002 x291003 x291004 x308000 x308001 x308002 x308003 x308004)
def standbylaw56_PlannerSimulates.j2 : Nat → Int → Int → List Int → List Int → Int → Int → Int → Int → Int → Bool → List Int → List Int → Int → Int → Int → List Int → List Int → List Int → List Int → Int → Option (Bool)
 | 0, _, _, _, _, _, _, _, _, _, _, _, _, _, _, _, _, _, _, _, _ => none
 | k + 1, x5, x6, x7, x8, x10, x11, x12, x13, x14, x73, x291000, x291001, x291002, x291003, x291004, x308000, x308001, x308002, x308003, x308004 => if x73 = true then (if x14 > 0 then (if x14 ≤ x5 then (if x291002 = 0 then (none) else (if 0 ≤ (wrap64 (Int.tdiv (wrap64 (x14 - 1)) x291002)) then (if (wrap64 (Int.tdiv (wrap64 (x14 - 1)) x291002)) < (x7.length : Int) then (if 0 ≤ (wrap64 (x14 - 1)) then (if (wrap64 (x14 - 1)) < (x291000.length : Int) then (standbylaw56_PlannerSimulates.j3 k x5 x6 (x7.set ((wrap64 (Int.tdiv (wrap64 (x14 - 1)) x291002)) : Int).toNat (wrap64 ((rd x7 (wrap64 (Int.tdiv (wrap64 (x14 - 1)) x291002))) + (rd x291000 (wrap64 (x14 - 1)))))) x8 x10 x11 x12 x13 x14 x291000 x291001 x291002 x291003 x291004 x308000 x308001 x308002 x308003 x308004) else (none)) else (none)) else (none)) else (none))) else (standbylaw56_PlannerSimulates.j3 k x5 x6 x7 x8 x10 x11 x12 x13 x14 x291000 x291001 x291002 x291003 x291004 x308000 x308001 x308002 x308003 x308004)) else (standbylaw56_PlannerSimulates.j5 k x5 x6 x7 x8 x10 x11 x12 x13 x14 x291000 x291001 x291002 x291003 x291004 x308000 x308001 x308002 x308003 x308004)) else (if x13 = 0 then (if x308004 = x11 then ((slices_Equal_int_int.f k x308002 x8).bind fun t317 => (if t317 = true then ((standbylaw56_awake.f).bind fun t318 => (some t318)) else (none))) else (none)) else (none))
def standbylaw56_PlannerSimulates.j5 : Nat → Int → Int → List Int → List Int → Int → Int → Int → Int → Int → List Int → List Int → Int → Int → Int → List Int → List Int → List Int → List Int → Int → Option (Bool)
 | 0, _, _, _, _, _, _, _, _, _, _, _, _, _, _, _, _, _, _, _ => none
 | k + 1, x5, x6, x7, x8, x10, x11, x12, x13, x14, x291000, x291001, x291002, x291003, x291004, x308000, x308001, x308002, x308003, x308004 => standbylaw56_PlannerSimulates.l2 k x5 x6 x7 x8 x10 x11 x12 x13 x14 x291000 x291001 x291002 x291003 x291004 x308000 x308001 x308002 x308003 x308004
def standbylaw56_PlannerSimulates.j7 : Nat → Int → Int → List Int → List Int → Int → Int → Int → Int → Int → List Int → List Int → Int → Int → Int → List Int → List Int → List Int → List Int → Int → Option (Bool)
 | 0, _, _, _, _, _, _, _, _, _, _, _, _, _, _, _, _, _, _, _ => none
 | k + 1, x5, x6, x7, x8, x10, x11, x12, x13, x14, x291000, x291001, x291002, x291003, x291004, x308000, x308001, x308002, x308003, x308004 => standbylaw56_PlannerSimulates.l3 k x5 x6 x7 x8 x10 x11 x12 x13 x14 x6 0 x291000 x291001 x291002 x291003 x291004 x308000 x308001 x308002 x308003 x308004
def standbylaw56_PlannerSimulates.l3 : Nat → Int → Int → List Int → List Int → Int → Int → Int → Int → Int → Int → Int → List Int → List Int → Int → Int → Int → List Int → List Int → List Int → List Int → Int → Option (Bool)
 | 0, _, _, _, _, _, _, _, _, _, _, _, _, _, _, _, _, _, _, _, _, _ => none
 | k + 1, x5, x6, x7, x8, x10, x11, x12, x13, x14, x152, x153, x291000, x291001, x291002, x291003, x291004, x308000, x308001, x308002, x308003, x308004 => if x153 < x152 then (if 0 ≤ x153 then (if x153 < (x8.length : Int) then (if (rd x8 x153) ≥ 0 then (if (wrap64 ((wrap64 ((rd x8 x153) + x291003)) + x291004)) = x14 then (standbylaw56_PlannerSimulates.l3 k x5 x6 x7 x8 x10 x11 (wrap64 ((wrap64 (x153 + 1)) * x291002)) (wrap64 (x13 - 1)) x14 x152 (wrap64 (x153 + 1)) x291000 x291001 x291002 x291003 x291004 x308000 x308001 x308002 x308003 x308004) else (standbylaw56_PlannerSimulates.l3 k x5 x6 x7 x8 x10 x11 x12 x13 x14 x152 (wrap64 (x153 + 1)) x291000 x291001 x291002 x291003 x291004 x308000 x308001 x308002 x308003 x308004)) else (standbylaw56_PlannerSimulates.l3 k x5 x6 x7 x8 x10 x11 x12 x13 x14 x152 (wrap64 (x153 + 1)) x291000 x291001 x291002 x291003 x291004 x308000 x308001 x308002 x308003 x308004)) else (none)) else (none)) else (standbylaw56_PlannerSimulates.l1 k x5 x6 x7 x8 x10 (mx x11 (wrap64 (x14 - x12))) x12 x13 (wrap64 (x14 + 1)) x291000 x291001 x291002 x291003 x291004 x308000 x308001 x308002 x308003 x308004)
def standbylaw56_PlannerSimulates.l2 : Nat → Int → Int → List Int → List Int → Int → Int → Int → Int → Int → List Int → List Int → Int → Int → Int → List Int → List Int → List Int → List Int → Int → Option (Bool)
 | 0, _, _, _, _, _, _, _, _, _, _, _, _, _, _, _, _, _, _, _ => none
 | k + 1, x5, x6, x7, x8, x10, x11, x12, x13, x14, x291000, x291001, x291002, x291003, x291004, x308000, x308001, x308002, x308003, x308004 => if x10 < x6 then (if x14 ≥ (wrap64 ((wrap64 (x10 + 1)) * x291002)) then (if 0 ≤ x10 then (if x10 < (x7.length : Int) then (if (rd x7 x10) ≤ 0 then (if x10 < (x8.length : Int) then (standbylaw56_PlannerSimulates.l2 k x5 x6 x7 (x8.set (x10 : Int).toNat x14) (wrap64 (x10 + 1)) x11 x12 x13 x14 x291000 x291001 x291002 x291003 x291004 x308000 x308001 x308002 x308003 x308004) else (none)) else (standbylaw56_PlannerSimulates.j7 k x5 x6 x7 x8 x10 x11 x12 x13 x14 x291000 x291001 x291002 x291003 x291004 x308000 x308001 x308002 x308003 x308004)) else (none)) else (none)) else (standbylaw56_PlannerSimulates.j7 k x5 x6 x7 x8 x10 x11 x12 x13 x14 x291000 x291001 x291002 x291003 x291004 x308000 x308001 x308002 x308003 x308004)) else (standbylaw56_PlannerSimulates.j7 k x5 x6 x7 x8 x10 x11 x12 x13 x14 x291000 x291001 x291002 x291003 x291004 x308000 x308001 x308002 x308003 x308004)
def standbylaw56_PlannerSimulates.j3 : Nat → Int → Int → List Int → List Int → Int → Int → Int → Int → Int → List Int → List Int → Int → Int → Int → List Int → List Int → List Int → List Int → Int → Option (Bool)
 | 0, _, _, _, _, _, _, _, _, _, _, _, _, _, _, _, _, _, _, _ => none
 | k + 1, x5, x6, x7, x8, x10, x11, x12, x13, x14, x291000, x291001, x291002, x291003, x291004, x308000, x308001, x308002, x308003, x308004 => if x10 < x6 then (if (wrap64 (x14 - 1)) ≥ (wrap64 ((wrap64 (x10 + 1)) * x291002)) then (if 0 ≤ x10 then (if x10 < (x7.length : Int) then (standbylaw56_PlannerSimulates.j4 k x5 x6 x7 x8 x10 x11 x12 x13 x14 (decide ((rd x7 x10) > 0)) x291000 x291001 x291002 x291003 x291004 x308000 x308001 x308002 x308003 x308004) else (none)) else (none)) else (standbylaw56_PlannerSimulates.j4 k x5 x6 x7 x8 x10 x11 x12 x13 x14 false x291000 x291001 x291002 x291003 x291004 x308000 x308001 x308002 x308003 x308004)) else (standbylaw56_PlannerSimulates.j4 k x5 x6 x7 x8 x10 x11 x12 x13 x14 false x291000 x291001 x291002 x291003 x291004 x308000 x308001 x308002 x308003 x308004)
def standbylaw56_PlannerSimulates.j4 : Nat → Int → Int → List Int → List Int → Int → Int → Int → Int → Int → Bool → List Int → List Int → Int → Int → Int → List Int → List Int → List Int → List Int → Int → Option (Bool)
 | 0, _, _, _, _, _, _, _, _, _, _, _, _, _, _, _, _, _, _, _, _ => none
 | k + 1, x5, x6, x7, x8, x10, x11, x12, x13, x14, x116, x291000, x291001, x291002, x291003, x291004, x308000, x308001, x308002, x308003, x308004 => if x116 = true then (if 0 ≤ x10 then (if x10 < (x7.length : Int) then ((standbylaw56_capacity.f x291000 x291001 x291002 x291003 x291004 (wrap64 (x14 - 1))).bind fun t324 => (standbylaw56_PlannerSimulates.j5 k x5 x6 (x7.set (x10 : Int).toNat (wrap64 ((rd x7 x10) - t324))) x8 x10 x11 x12 x13 x14 x291000 x291001 x291002 x291003 x291004 x308000 x308001 x308002 x308003 x308004)) else (none)) else (none)) else (standbylaw56_PlannerSimulates.j5 k x5 x6 x7 x8 x10 x11 x12 x13 x14 x291000 x291001 x291002 x291003 x291004 x308000 x308001 x308002 x308003 x308004)
end
def standbylaw56_PlannerSimulates.f (k : Nat) (l0_0 : List Int) (l0_1 : List Int) (a0_2 : Int) (a0_3 : Int) (a0_4 : Int) : Option (Bool) := (standbylaw56_small.f k l0_0 l0_1 a0_2 a0_3 a0_4).bind fun t291 => (if t291 = true then ((planner_Plan.f k l0_0 l0_1 a0_2 a0_3 a0_4).bind fun bt293 => (if bt293.2.2.2.2.2 = 0 then (if a0_2 = 0 then (none) else (if 0 ≤ (wrap64 (Int.tdiv (wrap64 ((wrap64 ((l0_0.length : Int) + a0_2)) - 1)) a0_2)) then (if (wrap64 (Int.tdiv (wrap64 ((wrap64 ((l0_0.length : Int) + a0_2)) - 1)) a0_2) : Int).toNat ≤ 35184372088832 then ((some (List.replicate (wrap64 (Int.tdiv (wrap64 ((wrap64 ((l0_0.length : Int) + a0_2)) - 1)) a0_2) : Int).toNat 0 : List Int)).bind fun y313 => (standbylaw56_PlannerSimulates.l0 k (l0_0.length : Int) (wrap64 (Int.tdiv (wrap64 ((wrap64 ((l0_0.length : Int) + a0_2)) - 1)) a0_2)) (List.replicate (wrap64 (Int.tdiv (wrap64 ((wrap64 ((l0_0.length : Int) + a0_2)) - 1)) a0_2) : Int).toNat 0) y313 (y313.length : Int) 0 l0_0 l0_1 a0_2 a0_3 a0_4 bt293.1 bt293.2.1 bt293.2.2.1 bt293.2.2.2.1 bt293.2.2.2.2.1)) else (none)) else (none))) else (if bt293.2.2.2.2.2 = 21 then (if 0 ≤ (wrap64 ((l0_1.length : Int) - 1)) then (if (wrap64 ((l0_1.length : Int) - 1)) < (l0_1.length : Int) then (if (rd l0_1 (wrap64 ((l0_1.length : Int) - 1))) = 0 then ((standbylaw56_awake.f).bind fun t309 => (some t309)) else (none)) else (none)) else (none)) else (none)))) else ((standbylaw56_awake.f).bind fun t292 => (some t292)))
def standbylaw56_PlannerSimulates.T21 : Bool × List (List Nat × List Nat) := (true, [([], []), ([], []), ([1], [1]), ([], []), ([3], [3]), ([2, 4], [2, 4]), ([0, 5], [0, 5]), ([6], [6]), ([], []), ([8], [8]), ([], []), ([10], [10]), ([9, 11], [9, 11]), ([12], [12]), ([7, 13], [7, 13]), ([0, 5, 0, 1, 2, 3, 4, 5, 6, 7, 8, 9, 10, 11, 12, 13, 14], [0, 5]), ([15, 14, 0, 1, 2, 3, 4, 5, 6, 7, 8, 9, 10, 11, 12, 13, 14], [14, 15])])
def standbylaw56_PlannerSimulates.B21 : List Nat := [0, 0, 2, 0, 8, 30, 63, 127, 0, 256, 0, 1024, 3840, 7936, 16383, 32767, 65535]
theorem standbylaw56_PlannerSimulates.tab21 : rtab .any (opsOf Try.f5 21) = standbylaw56_PlannerSimulates.T21 := by kernel_rfl
theorem standbylaw56_PlannerSimulates.bits21 : waitsOk standbylaw56_PlannerSimulates.T21.2 standbylaw56_PlannerSimulates.B21 = true := by kernel_rfl
def standbylaw56_PlannerSimulates.T23 : Bool × List (List Nat × List Nat) := (true, [([], []), ([], []), ([0, 1], [0, 1]), ([2], [2]), ([], []), ([], []), ([5], [5]), ([4, 6], [4, 6]), ([3, 7], [3, 7]), ([0, 1, 0, 1, 2, 3, 4, 5, 6, 7, 8], [0, 1]), ([9, 8, 7, 0, 1, 2, 3, 4, 5, 6, 7, 8], [8, 9])])
def standbylaw56_PlannerSimulates.B23 : List Nat := [0, 0, 3, 7, 0, 0, 32, 112, 255, 511, 1023]
theorem standbylaw56_PlannerSimulates.tab23 : rtab .any (opsOf Try.f5 23) = standbylaw56_PlannerSimulates.T23 := by kernel_rfl
theorem standbylaw56_PlannerSimulates.bits23 : waitsOk standbylaw56_PlannerSimulates.T23.2 standbylaw56_PlannerSimulates.B23 = true := by kernel_rfl
def standbylaw56_PlannerSimulates.T30 : Bool × List (List Nat × List Nat) := (true, [([], []), ([], []), ([0, 1], [0, 1]), ([2], [2]), ([3], [3]), ([4], [4]), ([5], [5]), ([5], [5]), ([6, 7, 5], [5, 6, 7]), ([8, 5], [5, 8]), ([5], [5]), ([10, 5], [5, 10]), ([9, 11, 5], [5, 9, 11]), ([5], [5]), ([13, 5], [5, 13]), ([12, 14, 5], [5, 12, 14]), ([5], [5]), ([15, 16, 5], [5, 15, 16]), ([5, 17], [5, 17])])
def standbylaw56_PlannerSimulates.B30 : List Nat := [0, 0, 3, 7, 15, 31, 63, 63, 255, 511, 63, 1087, 4095, 63, 8255, 32767, 63, 131071, 262143]
theorem standbylaw56_PlannerSimulates.tab30 : rtab .any (opsOf Try.f5 30) = standbylaw56_PlannerSimulates.T30 := by kernel_rfl
theorem standbylaw56_PlannerSimulates.bits30 : waitsOk standbylaw56_PlannerSimulates.T30.2 standbylaw56_PlannerSimulates.B30 = true := by kernel_rfl
set_option maxHeartbeats 8000000 in
set_option maxRecDepth 100000 in
theorem standbylaw56_PlannerSimulates.calls (k : Nat) (A0_0 : Option Addr) (c0_0 : Nat) (l0_0 : List Int) (A0_1 : Option Addr) (c0_1 : Nat) (l0_1 : List Int) (a0_2 : Int) (a0_3 : Int) (a0_4 : Int) (r : Bool) (w : World) (hr0_0 : Kd.C (Kd.int .i64) w A0_0 l0_0.length l0_0) (hc0_0 : l0_0.length ≤ c0_0) (hr0_1 : Kd.C (Kd.int .i64) w A0_1 l0_1.length l0_1) (hc0_1 : l0_1.length ≤ c0_1) (h : standbylaw56_PlannerSimulates.f k l0_0 l0_1 a0_2 a0_3 a0_4 = some r) :
  Calls Try.prog 5 #[.agg #[.slice A0_0 l0_0.length c0_0, .slice A0_1 l0_1.length c0_1, .int .i64 a0_2, .int .i64 a0_3, .int .i64 a0_4]] w fun e w' => e = .returned (.bool r) ∧ Below w.heap.size w w' := by
 have hu24 := Try.underlying24
 have hu28 := Try.underlying28
 have HR0_0 := Aside0.mk hr0_0
 have HC0_0 := Aside0.mk hc0_0
 clear hr0_0 hc0_0
 have HR0_1 := Aside0.mk hr0_1
 have HC0_1 := Aside0.mk hc0_1
 clear hr0_1 hc0_1
 have HB := Aside0.mk (Below.refl w.heap.size w)
 have H : ((standbylaw56_small.f k l0_0 l0_1 a0_2 a0_3 a0_4).bind fun t291 => (if t291 = true then ((planner_Plan.f k l0_0 l0_1 a0_2 a0_3 a0_4).bind fun bt293 => (if bt293.2.2.2.2.2 = 0 then (if a0_2 = 0 then (none) else (if 0 ≤ (wrap64 (Int.tdiv (wrap64 ((wrap64 ((l0_0.length : Int) + a0_2)) - 1)) a0_2)) then (if (wrap64 (Int.tdiv (wrap64 ((wrap64 ((l0_0.length : Int) + a0_2)) - 1)) a0_2) : Int).toNat ≤ 35184372088832 then ((some (List.replicate (wrap64 (Int.tdiv (wrap64 ((wrap64 ((l0_0.length : Int) + a0_2)) - 1)) a0_2) : Int).toNat 0 : List Int)).bind fun y313 => (standbylaw56_PlannerSimulates.l0 k (l0_0.length : Int) (wrap64 (Int.tdiv (wrap64 ((wrap64 ((l0_0.length : Int) + a0_2)) - 1)) a0_2)) (List.replicate (wrap64 (Int.tdiv (wrap64 ((wrap64 ((l0_0.length : Int) + a0_2)) - 1)) a0_2) : Int).toNat 0) y313 (y313.length : Int) 0 l0_0 l0_1 a0_2 a0_3 a0_4 bt293.1 bt293.2.1 bt293.2.2.1 bt293.2.2.2.1 bt293.2.2.2.2.1)) else (none)) else (none))) else (if bt293.2.2.2.2.2 = 21 then (if 0 ≤ (wrap64 ((l0_1.length : Int) - 1)) then (if (wrap64 ((l0_1.length : Int) - 1)) < (l0_1.length : Int) then (if (rd l0_1 (wrap64 ((l0_1.length : Int) - 1))) = 0 then ((standbylaw56_awake.f).bind fun t309 => (some t309)) else (none)) else (none)) else (none)) else (none)))) else ((standbylaw56_awake.f).bind fun t292 => (some t292)))) = some r := h
 clear h
 replace H := Option.bind_eq_some_iff.mp H
 obtain ⟨t291, A20, H⟩ := H
 replace H : (if t291 = true then ((planner_Plan.f k l0_0 l0_1 a0_2 a0_3 a0_4).bind fun bt293 => (if bt293.2.2.2.2.2 = 0 then (if a0_2 = 0 then (none) else (if 0 ≤ (wrap64 (Int.tdiv (wrap64 ((wrap64 ((l0_0.length : Int) + a0_2)) - 1)) a0_2)) then (if (wrap64 (Int.tdiv (wrap64 ((wrap64 ((l0_0.length : Int) + a0_2)) - 1)) a0_2) : Int).toNat ≤ 35184372088832 then ((some (List.replicate (wrap64 (Int.tdiv (wrap64 ((wrap64 ((l0_0.length : Int) + a0_2)) - 1)) a0_2) : Int).toNat 0 : List Int)).bind fun y313 => (standbylaw56_PlannerSimulates.l0 k (l0_0.length : Int) (wrap64 (Int.tdiv (wrap64 ((wrap64 ((l0_0.length : Int) + a0_2)) - 1)) a0_2)) (List.replicate (wrap64 (Int.tdiv (wrap64 ((wrap64 ((l0_0.length : Int) + a0_2)) - 1)) a0_2) : Int).toNat 0) y313 (y313.length : Int) 0 l0_0 l0_1 a0_2 a0_3 a0_4 bt293.1 bt293.2.1 bt293.2.2.1 bt293.2.2.2.1 bt293.2.2.2.2.1)) else (none)) else (none))) else (if bt293.2.2.2.2.2 = 21 then (if 0 ≤ (wrap64 ((l0_1.length : Int) - 1)) then (if (wrap64 ((l0_1.length : Int) - 1)) < (l0_1.length : Int) then (if (rd l0_1 (wrap64 ((l0_1.length : Int) - 1))) = 0 then ((standbylaw56_awake.f).bind fun t309 => (some t309)) else (none)) else (none)) else (none)) else (none)))) else ((standbylaw56_awake.f).bind fun t292 => (some t292))) = some r := H
 have A2 := Aside0.mk A20
 clear A20
 by_cases c3 : t291 = true
 case neg =>
  replace c3 := Bool.eq_false_iff.mpr c3
  subst c3
  have H1 : ((standbylaw56_awake.f).bind fun t292 => (some t292)) = some r := by rw [if_neg (show ¬ (false = true) by decide)] at H; exact H
  clear H
  have H := H1
  clear H1
  replace H := Option.bind_eq_some_iff.mp H
  obtain ⟨t292, A1280, H⟩ := H
  replace H : (some t292) = some r := H
  have A128 := Aside0.mk A1280
  clear A1280
  obtain rfl := Option.some.inj H
  go_enter Try.func5, Try.ntmps5
  go_wp2_with (first | ((with_reducible refine gate_dst (N := 1) rfl ?_); (try (refine gate_guard (by rfl) ?_; dsimp only)); refine box_event ?hg (N := 1) ?hd (cs := #[.slice A0_0 l0_0.length c0_0, .slice A0_1 l0_1.length c0_1, .int .i64 a0_2, .int .i64 a0_3, .int .i64 a0_4]) (t := 24) ?hr ?_; (case hd => rfl); (case hg => rfl); (case hr => first | (go_simp; done) | (go_simp; rfl)); intro gb290 hg w129 hbox hb; have n0_ := Aside0.mk (below_step (qW HB.out) hb); have n1_ := Aside0.mk (hbox); have n2_ := Aside0.mk ((by rw [hg]; exact (below_size (qW HB.out)) : w.heap.size ≤ gb290)); have n3_ := Aside0.mk ((by rw [hg]; exact (below_size (qW HB.out)) : w.heap.size ≤ gb290)); clear HB; have HB := n0_; have BK290 := n1_; have GW290 := n2_; have GE290 := n3_; clear n0_ n1_ n2_ n3_ hb hbox hg; have hcz130_0 : w129.cell? ⟨gb290, 0, none⟩ = some (.slice A0_0 l0_0.length c0_0) := (blk_cell BK290.out 0).trans rfl; have hcz130_1 : w129.cell? ⟨gb290, 1, none⟩ = some (.slice A0_1 l0_1.length c0_1) := (blk_cell BK290.out 1).trans rfl; have hcz130_2 : w129.cell? ⟨gb290, 2, none⟩ = some (.int .i64 a0_2) := (blk_cell BK290.out 2).trans rfl; have hcz130_3 : w129.cell? ⟨gb290, 3, none⟩ = some (.int .i64 a0_3) := (blk_cell BK290.out 3).trans rfl; have hcz130_4 : w129.cell? ⟨gb290, 4, none⟩ = some (.int .i64 a0_4) := (blk_cell BK290.out 4).trans rfl; have hfz130_0 := blk_frozen BK290.out 0; have hfz130_1 := blk_frozen BK290.out 1; have hfz130_2 := blk_frozen BK290.out 2; have hfz130_3 := blk_frozen BK290.out 3; have hfz130_4 := blk_frozen BK290.out 4) | ((with_reducible refine gate_callee (f := 23) rfl ?_); refine goesL_ (some 17) rfl rfl Try.func23 (by kernel_rfl) rfl #[.agg #[.slice A0_0 l0_0.length c0_0, .slice A0_1 l0_1.length c0_1, .int .i64 a0_2, .int .i64 a0_3, .int .i64 a0_4]] rfl (by (try simp only [List.map_toArray, List.map_cons, List.map_nil]); first | done | rfl | (simp only [List.length_drop, List.length_take]; rfl)) ?_; (with_reducible refine (standbylaw56_small.calls k _ _ l0_0 _ _ l0_1 a0_2 a0_3 a0_4 false _ ?side1 ?side2 ?side3 ?side4 A2.out).mono ?_); (case side1 => exact qC HR0_0.out HB.out); (case side2 => exact HC0_0.out); (case side3 => exact qC HR0_1.out HB.out); (case side4 => exact HC0_1.out); rintro e w131 ⟨rfl, hb⟩; refine ⟨_, rfl, ?_⟩; have n0_ := Aside0.mk (blk_below (qB BK290.out) hb); have n1_ := Aside0.mk (below_step (qW HB.out) hb); clear BK290 HB; have BK290 := n0_; have HB := n1_; clear n0_ n1_; (try clear hb); (try clear hb2); (try clear hk); (try clear hi)) | ((with_reducible refine gate_callee (f := 12) rfl ?_); refine goesL_ (some 19) rfl rfl Try.func12 (by kernel_rfl) rfl #[] rfl (by (try simp only [List.map_toArray, List.map_cons, List.map_nil]); first | done | rfl | (simp only [List.length_drop, List.length_take]; rfl)) ?_; (with_reducible refine (standbylaw56_awake.calls  t292 _ A128.out).mono ?_); rintro e w132 ⟨rfl, hb⟩; refine ⟨_, rfl, ?_⟩; have n0_ := Aside0.mk (blk_below (qB BK290.out) hb); have n1_ := Aside0.mk (below_step (qW HB.out) hb); clear BK290 HB; have BK290 := n0_; have HB := n1_; clear n0_ n1_; (try clear hb); (try clear hb2); (try clear hk); (try clear hi)))
  go_ret
  exact ⟨by first | rfl | (simp [errW_none, errW_some] <;> rfl) | (simp [*, errW_none, errW_some] <;> rfl), by repeat (first | (with_reducible first | exact HB.out | apply below_alloc | apply pw_below_drewN | apply below_drew1 | refine below_set ?_ GE290.out) | exact HB.out)⟩

 subst c3
 have H1 : ((planner_Plan.f k l0_0 l0_1 a0_2 a0_3 a0_4).bind fun bt293 => (if bt293.2.2.2.2.2 = 0 then (if a0_2 = 0 then (none) else (if 0 ≤ (wrap64 (Int.tdiv (wrap64 ((wrap64 ((l0_0.length : Int) + a0_2)) - 1)) a0_2)) then (if (wrap64 (Int.tdiv (wrap64 ((wrap64 ((l0_0.length : Int) + a0_2)) - 1)) a0_2) : Int).toNat ≤ 35184372088832 then ((some (List.replicate (wrap64 (Int.tdiv (wrap64 ((wrap64 ((l0_0.length : Int) + a0_2)) - 1)) a0_2) : Int).toNat 0 : List Int)).bind fun y313 => (standbylaw56_PlannerSimulates.l0 k (l0_0.length : Int) (wrap64 (Int.tdiv (wrap64 ((wrap64 ((l0_0.length : Int) + a0_2)) - 1)) a0_2)) (List.replicate (wrap64 (Int.tdiv (wrap64 ((wrap64 ((l0_0.length : Int) + a0_2)) - 1)) a0_2) : Int).toNat 0) y313 (y313.length : Int) 0 l0_0 l0_1 a0_2 a0_3 a0_4 bt293.1 bt293.2.1 bt293.2.2.1 bt293.2.2.2.1 bt293.2.2.2.2.1)) else (none)) else (none))) else (if bt293.2.2.2.2.2 = 21 then (if 0 ≤ (wrap64 ((l0_1.length : Int) - 1)) then (if (wrap64 ((l0_1.length : Int) - 1)) < (l0_1.length : Int) then (if (rd l0_1 (wrap64 ((l0_1.length : Int) - 1))) = 0 then ((standbylaw56_awake.f).bind fun t309 => (some t309)) else (none)) else (none)) else (none)) else (none)))) = some r := by rw [if_pos rfl] at H; exact H
 clear H
 have H := H1
 clear H1
 replace H := Option.bind_eq_some_iff.mp H
 obtain ⟨⟨t293, t296, t299, t302, t305, t306⟩, A40, H⟩ := H
 replace H : (if t306 = 0 then (if a0_2 = 0 then (none) else (if 0 ≤ (wrap64 (Int.tdiv (wrap64 ((wrap64 ((l0_0.length : Int) + a0_2)) - 1)) a0_2)) then (if (wrap64 (Int.tdiv (wrap64 ((wrap64 ((l0_0.length : Int) + a0_2)) - 1)) a0_2) : Int).toNat ≤ 35184372088832 then ((some (List.replicate (wrap64 (Int.tdiv (wrap64 ((wrap64 ((l0_0.length : Int) + a0_2)) - 1)) a0_2) : Int).toNat 0 : List Int)).bind fun y313 => (standbylaw56_PlannerSimulates.l0 k (l0_0.length : Int) (wrap64 (Int.tdiv (wrap64 ((wrap64 ((l0_0.length : Int) + a0_2)) - 1)) a0_2)) (List.replicate (wrap64 (Int.tdiv (wrap64 ((wrap64 ((l0_0.length : Int) + a0_2)) - 1)) a0_2) : Int).toNat 0) y313 (y313.length : Int) 0 l0_0 l0_1 a0_2 a0_3 a0_4 t293 t296 t299 t302 t305)) else (none)) else (none))) else (if t306 = 21 then (if 0 ≤ (wrap64 ((l0_1.length : Int) - 1)) then (if (wrap64 ((l0_1.length : Int) - 1)) < (l0_1.length : Int) then (if (rd l0_1 (wrap64 ((l0_1.length : Int) - 1))) = 0 then ((standbylaw56_awake.f).bind fun t309 => (some t309)) else (none)) else (none)) else (none)) else (none))) = some r := H
 have A4 := Aside0.mk A40
 clear A40
 by_cases c5 : t306 = 0
 case neg =>
  rw [if_neg c5] at H
  have c5b0 : (t306 == 0) = false := beq_eq_false_iff_ne.mpr c5
  have c5b1 : (t306 != 0) = true := bne_iff_ne.mpr c5
  by_cases c108 : t306 = 21
  case neg =>
   rw [if_neg c108] at H
   exact absurd H (by simp)
  rw [if_pos c108] at H
  have c108b0 : (t306 == 21) = true := beq_iff_eq.mpr c108
  have c108b1 : (t306 != 21) = false := bne_eq_false_iff_eq.mpr c108
  clear c108
  obtain ⟨ji109, hji109⟩ : ∃ j_ : Int, (wrap64 ((l0_1.length : Int) - 1)) = j_ := ⟨_, rfl⟩
  replace H : (if 0 ≤ (ji109) then (if (ji109) < (l0_1.length : Int) then (if (rd l0_1 (ji109)) = 0 then ((standbylaw56_awake.f).bind fun t309 => (some t309)) else (none)) else (none)) else (none)) = some r := by first | (rw [hji109] at H; exact H) | (simp only [hji109] at H ⊢; exact H)
  (try rw [hji109] at A2)
  (try rw [hji109] at A4)
  have hji109w : (IntKind.i64.wrap ((l0_1.length : Int) - 1)) = ji109 := (i64_w _).trans hji109
  by_cases c110 : 0 ≤ (ji109)
  case neg =>
   rw [if_neg c110] at H
   exact absurd H (by simp)
  rw [if_pos c110] at H
  have c110b0 : decide (0 ≤ (ji109)) = true := decide_eq_true c110
  clear c110
  by_cases c111 : (ji109) < (l0_1.length : Int)
  case neg =>
   rw [if_neg c111] at H
   exact absurd H (by simp)
  rw [if_pos c111] at H
  have c111b0 : decide ((ji109) < (l0_1.length : Int)) = true := decide_eq_true c111
  clear c111
  by_cases c112 : (rd l0_1 (ji109)) = 0
  case neg =>
   rw [if_neg c112] at H
   exact absurd H (by simp)
  rw [if_pos c112] at H
  have c112b0 : ((rd l0_1 (ji109)) == 0) = true := beq_iff_eq.mpr c112
  have c112b1 : ((rd l0_1 (ji109)) != 0) = false := bne_eq_false_iff_eq.mpr c112
  clear c112
  replace H := Option.bind_eq_some_iff.mp H
  obtain ⟨t309, A1130, H⟩ := H
  replace H : (some t309) = some r := H
  have A113 := Aside0.mk A1130
  clear A1130
  obtain rfl := Option.some.inj H
  go_enter Try.func5, Try.ntmps5
  go_wp2_with (first | ((with_reducible refine gate_dst (N := 1) rfl ?_); (try (refine gate_guard (by rfl) ?_; dsimp only)); refine box_event ?hg (N := 1) ?hd (cs := #[.slice A0_0 l0_0.length c0_0, .slice A0_1 l0_1.length c0_1, .int .i64 a0_2, .int .i64 a0_3, .int .i64 a0_4]) (t := 24) ?hr ?_; (case hd => rfl); (case hg => rfl); (case hr => first | (go_simp; done) | (go_simp; rfl)); intro gb290 hg w114 hbox hb; have n0_ := Aside0.mk (below_step (qW HB.out) hb); have n1_ := Aside0.mk (hbox); have n2_ := Aside0.mk ((by rw [hg]; exact (below_size (qW HB.out)) : w.heap.size ≤ gb290)); have n3_ := Aside0.mk ((by rw [hg]; exact (below_size (qW HB.out)) : w.heap.size ≤ gb290)); clear HB; have HB := n0_; have BK290 := n1_; have GW290 := n2_; have GE290 := n3_; clear n0_ n1_ n2_ n3_ hb hbox hg; have hcz115_0 : w114.cell? ⟨gb290, 0, none⟩ = some (.slice A0_0 l0_0.length c0_0) := (blk_cell BK290.out 0).trans rfl; have hcz115_1 : w114.cell? ⟨gb290, 1, none⟩ = some (.slice A0_1 l0_1.length c0_1) := (blk_cell BK290.out 1).trans rfl; have hcz115_2 : w114.cell? ⟨gb290, 2, none⟩ = some (.int .i64 a0_2) := (blk_cell BK290.out 2).trans rfl; have hcz115_3 : w114.cell? ⟨gb290, 3, none⟩ = some (.int .i64 a0_3) := (blk_cell BK290.out 3).trans rfl; have hcz115_4 : w114.cell? ⟨gb290, 4, none⟩ = some (.int .i64 a0_4) := (blk_cell BK290.out 4).trans rfl; have hfz115_0 := blk_frozen BK290.out 0; have hfz115_1 := blk_frozen BK290.out 1; have hfz115_2 := blk_frozen BK290.out 2; have hfz115_3 := blk_frozen BK290.out 3; have hfz115_4 := blk_frozen BK290.out 4) | ((with_reducible refine gate_callee (f := 23) rfl ?_); refine goesL_ (some 17) rfl rfl Try.func23 (by kernel_rfl) rfl #[.agg #[.slice A0_0 l0_0.length c0_0, .slice A0_1 l0_1.length c0_1, .int .i64 a0_2, .int .i64 a0_3, .int .i64 a0_4]] rfl (by (try simp only [List.map_toArray, List.map_cons, List.map_nil]); first | done | rfl | (simp only [List.length_drop, List.length_take]; rfl)) ?_; (with_reducible refine (standbylaw56_small.calls k _ _ l0_0 _ _ l0_1 a0_2 a0_3 a0_4 true _ ?side1 ?side2 ?side3 ?side4 A2.out).mono ?_); (case side1 => exact qC HR0_0.out HB.out); (case side2 => exact HC0_0.out); (case side3 => exact qC HR0_1.out HB.out); (case side4 => exact HC0_1.out); rintro e w116 ⟨rfl, hb⟩; refine ⟨_, rfl, ?_⟩; have n0_ := Aside0.mk (blk_below (qB BK290.out) hb); have n1_ := Aside0.mk (below_step (qW HB.out) hb); clear BK290 HB; have BK290 := n0_; have HB := n1_; clear n0_ n1_; (try clear hb); (try clear hb2); (try clear hk); (try clear hi); have hcz117_0 : w116.cell? ⟨gb290, 0, none⟩ = some (.slice A0_0 l0_0.length c0_0) := (blk_cell BK290.out 0).trans rfl; have hcz117_1 : w116.cell? ⟨gb290, 1, none⟩ = some (.slice A0_1 l0_1.length c0_1) := (blk_cell BK290.out 1).trans rfl; have hcz117_2 : w116.cell? ⟨gb290, 2, none⟩ = some (.int .i64 a0_2) := (blk_cell BK290.out 2).trans rfl; have hcz117_3 : w116.cell? ⟨gb290, 3, none⟩ = some (.int .i64 a0_3) := (blk_cell BK290.out 3).trans rfl; have hcz117_4 : w116.cell? ⟨gb290, 4, none⟩ = some (.int .i64 a0_4) := (blk_cell BK290.out 4).trans rfl; have hfz117_0 := blk_frozen BK290.out 0; have hfz117_1 := blk_frozen BK290.out 1; have hfz117_2 := blk_frozen BK290.out 2; have hfz117_3 := blk_frozen BK290.out 3; have hfz117_4 := blk_frozen BK290.out 4) | ((with_reducible refine gate_callee (f := 13) rfl ?_); refine goesL_ (some 22) rfl rfl Try.func13 (by kernel_rfl) rfl #[.agg #[.slice A0_0 l0_0.length c0_0, .slice A0_1 l0_1.length c0_1, .int .i64 a0_2, .int .i64 a0_3, .int .i64 a0_4]] rfl (by (try simp only [List.map_toArray, List.map_cons, List.map_nil]); first | done | rfl | (simp only [List.length_drop, List.length_take]; rfl)) ?_; (with_reducible refine (planner_Plan.calls k _ _ l0_0 _ _ l0_1 a0_2 a0_3 a0_4 t293 t296 t299 t302 t305 t306 _ ?side1 ?side2 ?side3 ?side4 A4.out).mono ?_); (case side1 => exact qC HR0_0.out HB.out); (case side2 => exact HC0_0.out); (case side3 => exact qC HR0_1.out HB.out); (case side4 => exact HC0_1.out); rintro e w118 ⟨v294, v297, v300, v303, rfl, ho0, ho1, ho2, ho3, hb⟩; refine ⟨_, rfl, ?_⟩; have n0_ := Aside0.mk (Kd.R_lower ho0 (below_size (qW HB.out))); have n1_ := Aside0.mk (Kd.R_lower ho1 (below_size (qW HB.out))); have n2_ := Aside0.mk (Kd.R_lower ho2 (below_size (qW HB.out))); have n3_ := Aside0.mk (Kd.R_lower ho3 (below_size (qW HB.out))); have n4_ := Aside0.mk (blk_below (qB BK290.out) hb); have n5_ := Aside0.mk (below_step (qW HB.out) hb); clear BK290 HB; have HO295 := n0_; have HO298 := n1_; have HO301 := n2_; have HO304 := n3_; have BK290 := n4_; have HB := n5_; clear n0_ n1_ n2_ n3_ n4_ n5_; (try clear hb); (try clear hb2); (try clear hk); (try clear hi); (try clear ho0); (try clear ho1); (try clear ho2); (try clear ho3)) | ((with_reducible refine gate_dst (N := 3) rfl ?_); (try (refine gate_guard (by rfl) ?_; dsimp only)); refine box_event ?hg (N := 3) ?hd (cs := #[.slice none 0 0, .slice none 0 0, .slice none 0 0, .slice none 0 0, .int .i64 0]) (t := 28) ?hr ?_; (case hd => rfl); (case hg => rfl); (case hr => first | (go_simp; done) | (go_simp; rfl)); intro gb307 hg w119 hbox hb; have n0_ := Aside0.mk (Kd.R_below (qR HO295.out) hb); have n1_ := Aside0.mk (Kd.R_below (qR HO298.out) hb); have n2_ := Aside0.mk (Kd.R_below (qR HO301.out) hb); have n3_ := Aside0.mk (Kd.R_below (qR HO304.out) hb); have n4_ := Aside0.mk (blk_below (qB BK290.out) hb); have n5_ := Aside0.mk (below_step (qW HB.out) hb); have n6_ := Aside0.mk (hbox); have n7_ := Aside0.mk ((by rw [hg]; exact (below_size (qW HB.out)) : w.heap.size ≤ gb307)); have n8_ := Aside0.mk ((by rw [hg]; exact (below_size (qW HB.out)) : w.heap.size ≤ gb307)); have n9_ := Aside0.mk ((by rw [hg]; exact Nat.ne_of_lt (blk_lt (qB BK290.out)) : gb290 ≠ gb307)); have n10_ := Aside0.mk ((by rw [hg]; exact Nat.ne_of_gt (blk_lt (qB BK290.out)) : gb307 ≠ gb290)); clear HO295 HO298 HO301 HO304 BK290 HB; have HO295 := n0_; have HO298 := n1_; have HO301 := n2_; have HO304 := n3_; have BK290 := n4_; have HB := n5_; have BK307 := n6_; have GW307 := n7_; have GE307 := n8_; have NB290_307 := n9_; have NB307_290 := n10_; clear n0_ n1_ n2_ n3_ n4_ n5_ n6_ n7_ n8_ n9_ n10_ hb hbox hg; obtain ⟨Ao120, co120, eo120⟩ := Kd.R_slice HO295.out; subst eo120; have hnb121 := NB307_290.out; have hnc121 := NB290_307.out; have hcz122_0 : w119.cell? ⟨gb307, 0, none⟩ = some (.slice none 0 0) := (blk_cell BK307.out 0).trans rfl; have hcz122_1 : w119.cell? ⟨gb307, 1, none⟩ = some (.slice none 0 0) := (blk_cell BK307.out 1).trans rfl; have hcz122_2 : w119.cell? ⟨gb307, 2, none⟩ = some (.slice none 0 0) := (blk_cell BK307.out 2).trans rfl; have hcz122_3 : w119.cell? ⟨gb307, 3, none⟩ = some (.slice none 0 0) := (blk_cell BK307.out 3).trans rfl; have hcz122_4 : w119.cell? ⟨gb307, 4, none⟩ = some (.int .i64 0) := (blk_cell BK307.out 4).trans rfl; have hfz122_0 := blk_frozen BK307.out 0; have hfz122_1 := blk_frozen BK307.out 1; have hfz122_2 := blk_frozen BK307.out 2; have hfz122_3 := blk_frozen BK307.out 3; have hfz122_4 := blk_frozen BK307.out 4; obtain ⟨Ao123, co123, eo123⟩ := Kd.R_slice HO298.out; subst eo123; obtain ⟨Ao124, co124, eo124⟩ := Kd.R_slice HO301.out; subst eo124; obtain ⟨Ao125, co125, eo125⟩ := Kd.R_slice HO304.out; subst eo125; have hcz126_0 : w119.cell? ⟨gb290, 0, none⟩ = some (.slice A0_0 l0_0.length c0_0) := (blk_cell BK290.out 0).trans rfl; have hcz126_1 : w119.cell? ⟨gb290, 1, none⟩ = some (.slice A0_1 l0_1.length c0_1) := (blk_cell BK290.out 1).trans rfl; have hcz126_2 : w119.cell? ⟨gb290, 2, none⟩ = some (.int .i64 a0_2) := (blk_cell BK290.out 2).trans rfl; have hcz126_3 : w119.cell? ⟨gb290, 3, none⟩ = some (.int .i64 a0_3) := (blk_cell BK290.out 3).trans rfl; have hcz126_4 : w119.cell? ⟨gb290, 4, none⟩ = some (.int .i64 a0_4) := (blk_cell BK290.out 4).trans rfl; have hfz126_0 := blk_frozen BK290.out 0; have hfz126_1 := blk_frozen BK290.out 1; have hfz126_2 := blk_frozen BK290.out 2; have hfz126_3 := blk_frozen BK290.out 3; have hfz126_4 := blk_frozen BK290.out 4; have p308 : 0 ≤ ((ji109) : Int) := of_decide_eq_true (by first | (with_reducible assumption) | assumption); have q308 : (ji109) < (l0_1.length : Int) := of_decide_eq_true (by first | (with_reducible assumption) | assumption); obtain ⟨ad308, e308, hx308_0⟩ := Kd.at_int HR0_1.out (ji109) p308 q308; cases e308; have hn308_0 : ad308.block ≠ gb307 := Nat.ne_of_lt (Nat.lt_of_lt_of_le (by have := World.block_lt_of_cell? _ _ hx308_0; first | rwa [add_block] at this | exact this) GW307.out); have hn308_1 : ad308.block ≠ gb307 := Nat.ne_of_lt (Nat.lt_of_lt_of_le (by have := World.block_lt_of_cell? _ _ hx308_0; first | rwa [add_block] at this | exact this) GW307.out); have hn308_2 : ad308.block ≠ gb307 := Nat.ne_of_lt (Nat.lt_of_lt_of_le (by have := World.block_lt_of_cell? _ _ hx308_0; first | rwa [add_block] at this | exact this) GW307.out); have hn308_3 : ad308.block ≠ gb307 := Nat.ne_of_lt (Nat.lt_of_lt_of_le (by have := World.block_lt_of_cell? _ _ hx308_0; first | rwa [add_block] at this | exact this) GW307.out); have hn308_4 : ad308.block ≠ gb307 := Nat.ne_of_lt (Nat.lt_of_lt_of_le (by have := World.block_lt_of_cell? _ _ hx308_0; first | rwa [add_block] at this | exact this) GW307.out); replace hx308_0 := (HB.out.cell (World.block_lt_of_cell? w _ hx308_0)).trans hx308_0; replace hx308_0 := (cell_far (p := ⟨gb307, 0, none⟩) (by first | (rw [add_block]; exact hn308_0) | (show (Addr.add _ _).block ≠ _; rw [add_block]; exact hn308_0) | exact hn308_0) (.slice Ao120 t293.length co120)).trans hx308_0; replace hx308_0 := (cell_far (p := ⟨gb307, 1, none⟩) (by first | (rw [add_block]; exact hn308_1) | (show (Addr.add _ _).block ≠ _; rw [add_block]; exact hn308_1) | exact hn308_1) (.slice Ao123 t296.length co123)).trans hx308_0; replace hx308_0 := (cell_far (p := ⟨gb307, 2, none⟩) (by first | (rw [add_block]; exact hn308_2) | (show (Addr.add _ _).block ≠ _; rw [add_block]; exact hn308_2) | exact hn308_2) (.slice Ao124 t299.length co124)).trans hx308_0; replace hx308_0 := (cell_far (p := ⟨gb307, 3, none⟩) (by first | (rw [add_block]; exact hn308_3) | (show (Addr.add _ _).block ≠ _; rw [add_block]; exact hn308_3) | exact hn308_3) (.slice Ao125 t302.length co125)).trans hx308_0; replace hx308_0 := (cell_far (p := ⟨gb307, 4, none⟩) (by first | (rw [add_block]; exact hn308_4) | (show (Addr.add _ _).block ≠ _; rw [add_block]; exact hn308_4) | exact hn308_4) (.int .i64 t305)).trans hx308_0; clear hn308_0 hn308_1 hn308_2 hn308_3 hn308_4; replace p308 := eq_true p308; replace q308 := eq_true q308) | (go_at_call 12; (with_reducible refine (standbylaw56_awake.calls  t309 _ A113.out).mono ?_); rintro e w127 ⟨rfl, hb⟩; have n0_ := Aside0.mk (Kd.R_below (qR (Kd.R_mono (Kd.R_far (p := ⟨gb307, 4, none⟩) (Kd.R_far (p := ⟨gb307, 3, none⟩) (Kd.R_far (p := ⟨gb307, 2, none⟩) (Kd.R_far (p := ⟨gb307, 1, none⟩) (Kd.R_far (p := ⟨gb307, 0, none⟩) (Kd.R_types HO295.out BK307.out (by decide)) (fun _ hk => hk.2) (.slice Ao120 t293.length co120)) (fun _ hk => hk.2) (.slice Ao123 t296.length co123)) (fun _ hk => hk.2) (.slice Ao124 t299.length co124)) (fun _ hk => hk.2) (.slice Ao125 t302.length co125)) (fun _ hk => hk.2) (.int .i64 t305)) (fun _ h_ => h_.1))) hb); have n1_ := Aside0.mk (Kd.R_below (qR (Kd.R_mono (Kd.R_far (p := ⟨gb307, 4, none⟩) (Kd.R_far (p := ⟨gb307, 3, none⟩) (Kd.R_far (p := ⟨gb307, 2, none⟩) (Kd.R_far (p := ⟨gb307, 1, none⟩) (Kd.R_far (p := ⟨gb307, 0, none⟩) (Kd.R_types HO298.out BK307.out (by decide)) (fun _ hk => hk.2) (.slice Ao120 t293.length co120)) (fun _ hk => hk.2) (.slice Ao123 t296.length co123)) (fun _ hk => hk.2) (.slice Ao124 t299.length co124)) (fun _ hk => hk.2) (.slice Ao125 t302.length co125)) (fun _ hk => hk.2) (.int .i64 t305)) (fun _ h_ => h_.1))) hb); have n2_ := Aside0.mk (Kd.R_below (qR (Kd.R_mono (Kd.R_far (p := ⟨gb307, 4, none⟩) (Kd.R_far (p := ⟨gb307, 3, none⟩) (Kd.R_far (p := ⟨gb307, 2, none⟩) (Kd.R_far (p := ⟨gb307, 1, none⟩) (Kd.R_far (p := ⟨gb307, 0, none⟩) (Kd.R_types HO301.out BK307.out (by decide)) (fun _ hk => hk.2) (.slice Ao120 t293.length co120)) (fun _ hk => hk.2) (.slice Ao123 t296.length co123)) (fun _ hk => hk.2) (.slice Ao124 t299.length co124)) (fun _ hk => hk.2) (.slice Ao125 t302.length co125)) (fun _ hk => hk.2) (.int .i64 t305)) (fun _ h_ => h_.1))) hb); have n3_ := Aside0.mk (Kd.R_below (qR (Kd.R_mono (Kd.R_far (p := ⟨gb307, 4, none⟩) (Kd.R_far (p := ⟨gb307, 3, none⟩) (Kd.R_far (p := ⟨gb307, 2, none⟩) (Kd.R_far (p := ⟨gb307, 1, none⟩) (Kd.R_far (p := ⟨gb307, 0, none⟩) (Kd.R_types HO304.out BK307.out (by decide)) (fun _ hk => hk.2) (.slice Ao120 t293.length co120)) (fun _ hk => hk.2) (.slice Ao123 t296.length co123)) (fun _ hk => hk.2) (.slice Ao124 t299.length co124)) (fun _ hk => hk.2) (.slice Ao125 t302.length co125)) (fun _ hk => hk.2) (.int .i64 t305)) (fun _ h_ => h_.1))) hb); have n4_ := Aside0.mk (blk_below (g := gb290) (o := .cells #[.slice A0_0 l0_0.length c0_0, .slice (some ad308) l0_1.length c0_1, .int .i64 a0_2, .int .i64 a0_3, .int .i64 a0_4] 24 (0, 0)) (by (with_reducible repeat (first | refine blk_drewN ?_ _ | refine blk_drew ?_ | refine blk_alloc ?_ _)); refine blk_far ?_ NB290_307.out _; (with_reducible repeat (first | refine blk_drewN ?_ _ | refine blk_drew ?_ | refine blk_alloc ?_ _)); refine blk_far ?_ NB290_307.out _; (with_reducible repeat (first | refine blk_drewN ?_ _ | refine blk_drew ?_ | refine blk_alloc ?_ _)); refine blk_far ?_ NB290_307.out _; (with_reducible repeat (first | refine blk_drewN ?_ _ | refine blk_drew ?_ | refine blk_alloc ?_ _)); refine blk_far ?_ NB290_307.out _; (with_reducible repeat (first | refine blk_drewN ?_ _ | refine blk_drew ?_ | refine blk_alloc ?_ _)); refine blk_far ?_ NB290_307.out _; exact qB BK290.out) hb); have n5_ := Aside0.mk (blk_below (g := gb307) (o := .cells #[.slice Ao120 t293.length co120, .slice Ao123 t296.length co123, .slice Ao124 t299.length co124, .slice Ao125 t302.length co125, .int .i64 t305] 28 (0, 0)) (by (with_reducible repeat (first | refine blk_drewN ?_ _ | refine blk_drew ?_ | refine blk_alloc ?_ _)); refine blk_put (cs := #[.slice Ao120 t293.length co120, .slice Ao123 t296.length co123, .slice Ao124 t299.length co124, .slice Ao125 t302.length co125, .int .i64 0]) ?_ 4 _ rfl; (with_reducible repeat (first | refine blk_drewN ?_ _ | refine blk_drew ?_ | refine blk_alloc ?_ _)); refine blk_put (cs := #[.slice Ao120 t293.length co120, .slice Ao123 t296.length co123, .slice Ao124 t299.length co124, .slice none 0 0, .int .i64 0]) ?_ 3 _ rfl; (with_reducible repeat (first | refine blk_drewN ?_ _ | refine blk_drew ?_ | refine blk_alloc ?_ _)); refine blk_put (cs := #[.slice Ao120 t293.length co120, .slice Ao123 t296.length co123, .slice none 0 0, .slice none 0 0, .int .i64 0]) ?_ 2 _ rfl; (with_reducible repeat (first | refine blk_drewN ?_ _ | refine blk_drew ?_ | refine blk_alloc ?_ _)); refine blk_put (cs := #[.slice Ao120 t293.length co120, .slice none 0 0, .slice none 0 0, .slice none 0 0, .int .i64 0]) ?_ 1 _ rfl; (with_reducible repeat (first | refine blk_drewN ?_ _ | refine blk_drew ?_ | refine blk_alloc ?_ _)); refine blk_put (cs := #[.slice none 0 0, .slice none 0 0, .slice none 0 0, .slice none 0 0, .int .i64 0]) ?_ 0 _ rfl; exact qB BK307.out) hb); have n6_ := Aside0.mk (below_step (qW HB.out) hb); clear HO295 HO298 HO301 HO304 BK290 BK307 HB; have HO295 := n0_; have HO298 := n1_; have HO301 := n2_; have HO304 := n3_; have BK290 := n4_; have BK307 := n5_; have HB := n6_; clear n0_ n1_ n2_ n3_ n4_ n5_ n6_; (try clear hb); (try clear hb2); (try clear hk); (try clear hi)))
  go_ret
  exact ⟨by first | rfl | (simp [errW_none, errW_some] <;> rfl) | (simp only [← hji109]; first | rfl | (simp [errW_none, errW_some] <;> rfl)) | (simp [*, errW_none, errW_some] <;> rfl), by repeat (first | (with_reducible first | exact HB.out | apply below_alloc | apply pw_below_drewN | apply below_drew1 | refine below_set ?_ GE290.out | refine below_set ?_ GE307.out) | exact HB.out)⟩
 rw [if_pos c5] at H
 have c5b0 : (t306 == 0) = true := beq_iff_eq.mpr c5
 have c5b1 : (t306 != 0) = false := bne_eq_false_iff_eq.mpr c5
 clear c5
 by_cases c6 : a0_2 = 0
 ·rw [if_pos c6] at H
  exact absurd H (by simp)
 ·rw [if_neg c6] at H
  have c6b0 : (a0_2 == 0) = false := beq_eq_false_iff_ne.mpr c6
  have c6b1 : (a0_2 != 0) = true := bne_iff_ne.mpr c6
  obtain ⟨ji7, hji7⟩ : ∃ j_ : Int, (wrap64 (Int.tdiv (wrap64 ((wrap64 ((l0_0.length : Int) + a0_2)) - 1)) a0_2)) = j_ := ⟨_, rfl⟩
  replace H : (if 0 ≤ (ji7) then (if (ji7 : Int).toNat ≤ 35184372088832 then ((some (List.replicate (ji7 : Int).toNat 0 : List Int)).bind fun y313 => (standbylaw56_PlannerSimulates.l0 k (l0_0.length : Int) ji7 (List.replicate (ji7 : Int).toNat 0) y313 (y313.length : Int) 0 l0_0 l0_1 a0_2 a0_3 a0_4 t293 t296 t299 t302 t305)) else (none)) else (none)) = some r := by first | (rw [hji7] at H; exact H) | (simp only [hji7] at H ⊢; exact H)
  (try rw [hji7] at A2)
  (try rw [hji7] at A4)
  have hji7w : (IntKind.i64.wrap (Int.tdiv (wrap64 ((wrap64 ((l0_0.length : Int) + a0_2)) - 1)) a0_2)) = ji7 := (i64_w _).trans hji7
  by_cases c8 : 0 ≤ (ji7)
  case neg =>
   rw [if_neg c8] at H
   exact absurd H (by simp)
  rw [if_pos c8] at H
  have c8b0 := eq_true c8
  have c8b1 : decide (0 ≤ (ji7)) = true := decide_eq_true c8
  clear c8
  by_cases c9 : (ji7 : Int).toNat ≤ 35184372088832
  case neg =>
   rw [if_neg c9] at H
   exact absurd H (by simp)
  rw [if_pos c9] at H
  have c9b0 := eq_true c9
  have c9b1 : decide ((ji7 : Int).toNat ≤ 35184372088832) = true := decide_eq_true c9
  clear c9
  obtain ⟨y310, hy310⟩ : ∃ y_ : List Int, y_ = (List.replicate (ji7 : Int).toNat 0) := ⟨_, rfl⟩
  replace H : ((some (List.replicate (ji7 : Int).toNat 0 : List Int)).bind fun y313 => (standbylaw56_PlannerSimulates.l0 k (l0_0.length : Int) ji7 y310 y313 (y313.length : Int) 0 l0_0 l0_1 a0_2 a0_3 a0_4 t293 t296 t299 t302 t305)) = some r := by first | (rw [hy310]; with_reducible exact H) | (have H2_ := (Option.bind_some _ _).symm.trans H; rw [hy310]; with_reducible exact H2_) | (have H2_ := (Option.bind_some _ _).symm.trans H; with_reducible exact H2_) | with_reducible exact H | (rw [hy310]; exact H) | exact H
  have Ny310 := Aside0.mk hy310
  clear hy310
  obtain ⟨y313, hy313⟩ : ∃ y_ : List Int, y_ = (List.replicate (ji7 : Int).toNat 0) := ⟨_, rfl⟩
  replace H : (standbylaw56_PlannerSimulates.l0 k (l0_0.length : Int) ji7 y310 y313 (y313.length : Int) 0 l0_0 l0_1 a0_2 a0_3 a0_4 t293 t296 t299 t302 t305) = some r := by first | (rw [hy313]; with_reducible exact H) | (have H2_ := (Option.bind_some _ _).symm.trans H; rw [hy313]; with_reducible exact H2_) | (have H2_ := (Option.bind_some _ _).symm.trans H; with_reducible exact H2_) | with_reducible exact H | (rw [hy313]; exact H) | exact H
  have Ny313 := Aside0.mk hy313
  clear hy313
  have H' := Aside0.mk H
  clear H
  go_enter Try.func5, Try.ntmps5
  go_wp2_with (first | ((with_reducible refine gate_dst (N := 1) rfl ?_); (try (refine gate_guard (by rfl) ?_; dsimp only)); refine box_event ?hg (N := 1) ?hd (cs := #[.slice A0_0 l0_0.length c0_0, .slice A0_1 l0_1.length c0_1, .int .i64 a0_2, .int .i64 a0_3, .int .i64 a0_4]) (t := 24) ?hr ?_; (case hd => rfl); (case hg => rfl); (case hr => first | (go_simp; done) | (go_simp; rfl)); intro gb290 hg w10 hbox hb; have n0_ := Aside0.mk (below_step (qW HB.out) hb); have n1_ := Aside0.mk (hbox); have n2_ := Aside0.mk ((by rw [hg]; exact (below_size (qW HB.out)) : w.heap.size ≤ gb290)); have n3_ := Aside0.mk ((by rw [hg]; exact (below_size (qW HB.out)) : w.heap.size ≤ gb290)); clear HB; have HB := n0_; have BK290 := n1_; have GW290 := n2_; have GE290 := n3_; clear n0_ n1_ n2_ n3_ hb hbox hg; have hcz11_0 : w10.cell? ⟨gb290, 0, none⟩ = some (.slice A0_0 l0_0.length c0_0) := (blk_cell BK290.out 0).trans rfl; have hcz11_1 : w10.cell? ⟨gb290, 1, none⟩ = some (.slice A0_1 l0_1.length c0_1) := (blk_cell BK290.out 1).trans rfl; have hcz11_2 : w10.cell? ⟨gb290, 2, none⟩ = some (.int .i64 a0_2) := (blk_cell BK290.out 2).trans rfl; have hcz11_3 : w10.cell? ⟨gb290, 3, none⟩ = some (.int .i64 a0_3) := (blk_cell BK290.out 3).trans rfl; have hcz11_4 : w10.cell? ⟨gb290, 4, none⟩ = some (.int .i64 a0_4) := (blk_cell BK290.out 4).trans rfl; have hfz11_0 := blk_frozen BK290.out 0; have hfz11_1 := blk_frozen BK290.out 1; have hfz11_2 := blk_frozen BK290.out 2; have hfz11_3 := blk_frozen BK290.out 3; have hfz11_4 := blk_frozen BK290.out 4) | ((with_reducible refine gate_callee (f := 23) rfl ?_); refine goesL_ (some 17) rfl rfl Try.func23 (by kernel_rfl) rfl #[.agg #[.slice A0_0 l0_0.length c0_0, .slice A0_1 l0_1.length c0_1, .int .i64 a0_2, .int .i64 a0_3, .int .i64 a0_4]] rfl (by (try simp only [List.map_toArray, List.map_cons, List.map_nil]); first | done | rfl | (simp only [List.length_drop, List.length_take]; rfl)) ?_; (with_reducible refine (standbylaw56_small.calls k _ _ l0_0 _ _ l0_1 a0_2 a0_3 a0_4 true _ ?side1 ?side2 ?side3 ?side4 A2.out).mono ?_); (case side1 => exact qC HR0_0.out HB.out); (case side2 => exact HC0_0.out); (case side3 => exact qC HR0_1.out HB.out); (case side4 => exact HC0_1.out); rintro e w12 ⟨rfl, hb⟩; refine ⟨_, rfl, ?_⟩; have n0_ := Aside0.mk (blk_below (qB BK290.out) hb); have n1_ := Aside0.mk (below_step (qW HB.out) hb); clear BK290 HB; have BK290 := n0_; have HB := n1_; clear n0_ n1_; (try clear hb); (try clear hb2); (try clear hk); (try clear hi); have hcz13_0 : w12.cell? ⟨gb290, 0, none⟩ = some (.slice A0_0 l0_0.length c0_0) := (blk_cell BK290.out 0).trans rfl; have hcz13_1 : w12.cell? ⟨gb290, 1, none⟩ = some (.slice A0_1 l0_1.length c0_1) := (blk_cell BK290.out 1).trans rfl; have hcz13_2 : w12.cell? ⟨gb290, 2, none⟩ = some (.int .i64 a0_2) := (blk_cell BK290.out 2).trans rfl; have hcz13_3 : w12.cell? ⟨gb290, 3, none⟩ = some (.int .i64 a0_3) := (blk_cell BK290.out 3).trans rfl; have hcz13_4 : w12.cell? ⟨gb290, 4, none⟩ = some (.int .i64 a0_4) := (blk_cell BK290.out 4).trans rfl; have hfz13_0 := blk_frozen BK290.out 0; have hfz13_1 := blk_frozen BK290.out 1; have hfz13_2 := blk_frozen BK290.out 2; have hfz13_3 := blk_frozen BK290.out 3; have hfz13_4 := blk_frozen BK290.out 4) | ((with_reducible refine gate_callee (f := 13) rfl ?_); refine goesL_ (some 22) rfl rfl Try.func13 (by kernel_rfl) rfl #[.agg #[.slice A0_0 l0_0.length c0_0, .slice A0_1 l0_1.length c0_1, .int .i64 a0_2, .int .i64 a0_3, .int .i64 a0_4]] rfl (by (try simp only [List.map_toArray, List.map_cons, List.map_nil]); first | done | rfl | (simp only [List.length_drop, List.length_take]; rfl)) ?_; (with_reducible refine (planner_Plan.calls k _ _ l0_0 _ _ l0_1 a0_2 a0_3 a0_4 t293 t296 t299 t302 t305 t306 _ ?side1 ?side2 ?side3 ?side4 A4.out).mono ?_); (case side1 => exact qC HR0_0.out HB.out); (case side2 => exact HC0_0.out); (case side3 => exact qC HR0_1.out HB.out); (case side4 => exact HC0_1.out); rintro e w14 ⟨v294, v297, v300, v303, rfl, ho0, ho1, ho2, ho3, hb⟩; refine ⟨_, rfl, ?_⟩; have n0_ := Aside0.mk (Kd.R_lower ho0 (below_size (qW HB.out))); have n1_ := Aside0.mk (Kd.R_lower ho1 (below_size (qW HB.out))); have n2_ := Aside0.mk (Kd.R_lower ho2 (below_size (qW HB.out))); have n3_ := Aside0.mk (Kd.R_lower ho3 (below_size (qW HB.out))); have n4_ := Aside0.mk (blk_below (qB BK290.out) hb); have n5_ := Aside0.mk (below_step (qW HB.out) hb); clear BK290 HB; have HO295 := n0_; have HO298 := n1_; have HO301 := n2_; have HO304 := n3_; have BK290 := n4_; have HB := n5_; clear n0_ n1_ n2_ n3_ n4_ n5_; (try clear hb); (try clear hb2); (try clear hk); (try clear hi); (try clear ho0); (try clear ho1); (try clear ho2); (try clear ho3)) | ((with_reducible refine gate_dst (N := 3) rfl ?_); (try (refine gate_guard (by rfl) ?_; dsimp only)); refine box_event ?hg (N := 3) ?hd (cs := #[.slice none 0 0, .slice none 0 0, .slice none 0 0, .slice none 0 0, .int .i64 0]) (t := 28) ?hr ?_; (case hd => rfl); (case hg => rfl); (case hr => first | (go_simp; done) | (go_simp; rfl)); intro gb307 hg w15 hbox hb; have n0_ := Aside0.mk (Kd.R_below (qR HO295.out) hb); have n1_ := Aside0.mk (Kd.R_below (qR HO298.out) hb); have n2_ := Aside0.mk (Kd.R_below (qR HO301.out) hb); have n3_ := Aside0.mk (Kd.R_below (qR HO304.out) hb); have n4_ := Aside0.mk (blk_below (qB BK290.out) hb); have n5_ := Aside0.mk (below_step (qW HB.out) hb); have n6_ := Aside0.mk (hbox); have n7_ := Aside0.mk ((by rw [hg]; exact (below_size (qW HB.out)) : w.heap.size ≤ gb307)); have n8_ := Aside0.mk ((by rw [hg]; exact (below_size (qW HB.out)) : w.heap.size ≤ gb307)); have n9_ := Aside0.mk ((by rw [hg]; exact Nat.ne_of_lt (blk_lt (qB BK290.out)) : gb290 ≠ gb307)); have n10_ := Aside0.mk ((by rw [hg]; exact Nat.ne_of_gt (blk_lt (qB BK290.out)) : gb307 ≠ gb290)); clear HO295 HO298 HO301 HO304 BK290 HB; have HO295 := n0_; have HO298 := n1_; have HO301 := n2_; have HO304 := n3_; have BK290 := n4_; have HB := n5_; have BK307 := n6_; have GW307 := n7_; have GE307 := n8_; have NB290_307 := n9_; have NB307_290 := n10_; clear n0_ n1_ n2_ n3_ n4_ n5_ n6_ n7_ n8_ n9_ n10_ hb hbox hg; obtain ⟨Ao16, co16, eo16⟩ := Kd.R_slice HO295.out; subst eo16; have hnb17 := NB307_290.out; have hnc17 := NB290_307.out; have hcz18_0 : w15.cell? ⟨gb307, 0, none⟩ = some (.slice none 0 0) := (blk_cell BK307.out 0).trans rfl; have hcz18_1 : w15.cell? ⟨gb307, 1, none⟩ = some (.slice none 0 0) := (blk_cell BK307.out 1).trans rfl; have hcz18_2 : w15.cell? ⟨gb307, 2, none⟩ = some (.slice none 0 0) := (blk_cell BK307.out 2).trans rfl; have hcz18_3 : w15.cell? ⟨gb307, 3, none⟩ = some (.slice none 0 0) := (blk_cell BK307.out 3).trans rfl; have hcz18_4 : w15.cell? ⟨gb307, 4, none⟩ = some (.int .i64 0) := (blk_cell BK307.out 4).trans rfl; have hfz18_0 := blk_frozen BK307.out 0; have hfz18_1 := blk_frozen BK307.out 1; have hfz18_2 := blk_frozen BK307.out 2; have hfz18_3 := blk_frozen BK307.out 3; have hfz18_4 := blk_frozen BK307.out 4; obtain ⟨Ao19, co19, eo19⟩ := Kd.R_slice HO298.out; subst eo19; obtain ⟨Ao20, co20, eo20⟩ := Kd.R_slice HO301.out; subst eo20; obtain ⟨Ao21, co21, eo21⟩ := Kd.R_slice HO304.out; subst eo21; have hcz22_0 : w15.cell? ⟨gb290, 0, none⟩ = some (.slice A0_0 l0_0.length c0_0) := (blk_cell BK290.out 0).trans rfl; have hcz22_1 : w15.cell? ⟨gb290, 1, none⟩ = some (.slice A0_1 l0_1.length c0_1) := (blk_cell BK290.out 1).trans rfl; have hcz22_2 : w15.cell? ⟨gb290, 2, none⟩ = some (.int .i64 a0_2) := (blk_cell BK290.out 2).trans rfl; have hcz22_3 : w15.cell? ⟨gb290, 3, none⟩ = some (.int .i64 a0_3) := (blk_cell BK290.out 3).trans rfl; have hcz22_4 : w15.cell? ⟨gb290, 4, none⟩ = some (.int .i64 a0_4) := (blk_cell BK290.out 4).trans rfl; have hfz22_0 := blk_frozen BK290.out 0; have hfz22_1 := blk_frozen BK290.out 1; have hfz22_2 := blk_frozen BK290.out 2; have hfz22_3 := blk_frozen BK290.out 3; have hfz22_4 := blk_frozen BK290.out 4) | ((with_reducible refine gate_dst (N := 55) rfl ?_); (try (refine gate_guard (by rfl) ?_; dsimp only)); refine Kd.R_make (Kd.int .i64) _ 3 rfl (N := 55) rfl 22 _ _ rfl ji7 rfl rfl Try.underlying22 (.int .i64 0) 8 info3 rfl (by decide) (by omega) 0 (ok := fun _ => True) (okp := fun _ => True) rfl (fun _ hk => hk) trivial (of_decide_eq_true (by first | (with_reducible assumption) | assumption)) (Nat.le_trans (Nat.mul_le_mul_right _ (of_decide_eq_true (by first | (with_reducible assumption) | assumption) : ji7.toNat ≤ 35184372088832)) (by omega)) (Below.refl _ _) (Nat.le_refl _) ?_; intro v311 w23 ho24 hb hg_ hnew_; clear hg_ hnew_; (first | rw [← Ny310.out] at ho24 | (simp only [Int.reduceToNat] at ho24; rw [← Ny310.out] at ho24)); have n0_ := Aside0.mk (Kd.R_elder' (qR (Kd.R_mono (Kd.R_far (p := ⟨gb307, 4, none⟩) (Kd.R_far (p := ⟨gb307, 3, none⟩) (Kd.R_far (p := ⟨gb307, 2, none⟩) (Kd.R_far (p := ⟨gb307, 1, none⟩) (Kd.R_far (p := ⟨gb307, 0, none⟩) (Kd.R_types HO295.out BK307.out (by decide)) (fun _ hk => hk.2) (.slice Ao16 t293.length co16)) (fun _ hk => hk.2) (.slice Ao19 t296.length co19)) (fun _ hk => hk.2) (.slice Ao20 t299.length co20)) (fun _ hk => hk.2) (.slice Ao21 t302.length co21)) (fun _ hk => hk.2) (.int .i64 t305)) (fun _ h_ => h_.1))) (Kd.R_base ho24) hb); have n1_ := Aside0.mk (Kd.R_elder' (qR (Kd.R_mono (Kd.R_far (p := ⟨gb307, 4, none⟩) (Kd.R_far (p := ⟨gb307, 3, none⟩) (Kd.R_far (p := ⟨gb307, 2, none⟩) (Kd.R_far (p := ⟨gb307, 1, none⟩) (Kd.R_far (p := ⟨gb307, 0, none⟩) (Kd.R_types HO298.out BK307.out (by decide)) (fun _ hk => hk.2) (.slice Ao16 t293.length co16)) (fun _ hk => hk.2) (.slice Ao19 t296.length co19)) (fun _ hk => hk.2) (.slice Ao20 t299.length co20)) (fun _ hk => hk.2) (.slice Ao21 t302.length co21)) (fun _ hk => hk.2) (.int .i64 t305)) (fun _ h_ => h_.1))) (Kd.R_base ho24) hb); have n2_ := Aside0.mk (Kd.R_elder' (qR (Kd.R_mono (Kd.R_far (p := ⟨gb307, 4, none⟩) (Kd.R_far (p := ⟨gb307, 3, none⟩) (Kd.R_far (p := ⟨gb307, 2, none⟩) (Kd.R_far (p := ⟨gb307, 1, none⟩) (Kd.R_far (p := ⟨gb307, 0, none⟩) (Kd.R_types HO301.out BK307.out (by decide)) (fun _ hk => hk.2) (.slice Ao16 t293.length co16)) (fun _ hk => hk.2) (.slice Ao19 t296.length co19)) (fun _ hk => hk.2) (.slice Ao20 t299.length co20)) (fun _ hk => hk.2) (.slice Ao21 t302.length co21)) (fun _ hk => hk.2) (.int .i64 t305)) (fun _ h_ => h_.1))) (Kd.R_base ho24) hb); have n3_ := Aside0.mk (Kd.R_elder' (qR (Kd.R_mono (Kd.R_far (p := ⟨gb307, 4, none⟩) (Kd.R_far (p := ⟨gb307, 3, none⟩) (Kd.R_far (p := ⟨gb307, 2, none⟩) (Kd.R_far (p := ⟨gb307, 1, none⟩) (Kd.R_far (p := ⟨gb307, 0, none⟩) (Kd.R_types HO304.out BK307.out (by decide)) (fun _ hk => hk.2) (.slice Ao16 t293.length co16)) (fun _ hk => hk.2) (.slice Ao19 t296.length co19)) (fun _ hk => hk.2) (.slice Ao20 t299.length co20)) (fun _ hk => hk.2) (.slice Ao21 t302.length co21)) (fun _ hk => hk.2) (.int .i64 t305)) (fun _ h_ => h_.1))) (Kd.R_base ho24) hb); have n4_ := Aside0.mk (Kd.R_lower (Kd.R_new' (Kd.R_new' (Kd.R_new' (Kd.R_new' ho24 (Kd.R_lt (qR (Kd.R_mono (Kd.R_far (p := ⟨gb307, 4, none⟩) (Kd.R_far (p := ⟨gb307, 3, none⟩) (Kd.R_far (p := ⟨gb307, 2, none⟩) (Kd.R_far (p := ⟨gb307, 1, none⟩) (Kd.R_far (p := ⟨gb307, 0, none⟩) (Kd.R_types HO295.out BK307.out (by decide)) (fun _ hk => hk.2) (.slice Ao16 t293.length co16)) (fun _ hk => hk.2) (.slice Ao19 t296.length co19)) (fun _ hk => hk.2) (.slice Ao20 t299.length co20)) (fun _ hk => hk.2) (.slice Ao21 t302.length co21)) (fun _ hk => hk.2) (.int .i64 t305)) (fun _ h_ => h_.1))))) (Kd.R_lt (qR (Kd.R_mono (Kd.R_far (p := ⟨gb307, 4, none⟩) (Kd.R_far (p := ⟨gb307, 3, none⟩) (Kd.R_far (p := ⟨gb307, 2, none⟩) (Kd.R_far (p := ⟨gb307, 1, none⟩) (Kd.R_far (p := ⟨gb307, 0, none⟩) (Kd.R_types HO298.out BK307.out (by decide)) (fun _ hk => hk.2) (.slice Ao16 t293.length co16)) (fun _ hk => hk.2) (.slice Ao19 t296.length co19)) (fun _ hk => hk.2) (.slice Ao20 t299.length co20)) (fun _ hk => hk.2) (.slice Ao21 t302.length co21)) (fun _ hk => hk.2) (.int .i64 t305)) (fun _ h_ => h_.1))))) (Kd.R_lt (qR (Kd.R_mono (Kd.R_far (p := ⟨gb307, 4, none⟩) (Kd.R_far (p := ⟨gb307, 3, none⟩) (Kd.R_far (p := ⟨gb307, 2, none⟩) (Kd.R_far (p := ⟨gb307, 1, none⟩) (Kd.R_far (p := ⟨gb307, 0, none⟩) (Kd.R_types HO301.out BK307.out (by decide)) (fun _ hk => hk.2) (.slice Ao16 t293.length co16)) (fun _ hk => hk.2) (.slice Ao19 t296.length co19)) (fun _ hk => hk.2) (.slice Ao20 t299.length co20)) (fun _ hk => hk.2) (.slice Ao21 t302.length co21)) (fun _ hk => hk.2) (.int .i64 t305)) (fun _ h_ => h_.1))))) (Kd.R_lt (qR (Kd.R_mono (Kd.R_far (p := ⟨gb307, 4, none⟩) (Kd.R_far (p := ⟨gb307, 3, none⟩) (Kd.R_far (p := ⟨gb307, 2, none⟩) (Kd.R_far (p := ⟨gb307, 1, none⟩) (Kd.R_far (p := ⟨gb307, 0, none⟩) (Kd.R_types HO304.out BK307.out (by decide)) (fun _ hk => hk.2) (.slice Ao16 t293.length co16)) (fun _ hk => hk.2) (.slice Ao19 t296.length co19)) (fun _ hk => hk.2) (.slice Ao20 t299.length co20)) (fun _ hk => hk.2) (.slice Ao21 t302.length co21)) (fun _ hk => hk.2) (.int .i64 t305)) (fun _ h_ => h_.1))))) (below_size (qW HB.out))); have n5_ := Aside0.mk (blk_below (g := gb290) (o := .cells #[.slice A0_0 l0_0.length c0_0, .slice A0_1 l0_1.length c0_1, .int .i64 a0_2, .int .i64 a0_3, .int .i64 a0_4] 24 (0, 0)) (by (with_reducible repeat (first | refine blk_drewN ?_ _ | refine blk_drew ?_ | refine blk_alloc ?_ _)); refine blk_far ?_ NB290_307.out _; (with_reducible repeat (first | refine blk_drewN ?_ _ | refine blk_drew ?_ | refine blk_alloc ?_ _)); refine blk_far ?_ NB290_307.out _; (with_reducible repeat (first | refine blk_drewN ?_ _ | refine blk_drew ?_ | refine blk_alloc ?_ _)); refine blk_far ?_ NB290_307.out _; (with_reducible repeat (first | refine blk_drewN ?_ _ | refine blk_drew ?_ | refine blk_alloc ?_ _)); refine blk_far ?_ NB290_307.out _; (with_reducible repeat (first | refine blk_drewN ?_ _ | refine blk_drew ?_ | refine blk_alloc ?_ _)); refine blk_far ?_ NB290_307.out _; exact qB BK290.out) hb); have n6_ := Aside0.mk (blk_below (g := gb307) (o := .cells #[.slice Ao16 t293.length co16, .slice Ao19 t296.length co19, .slice Ao20 t299.length co20, .slice Ao21 t302.length co21, .int .i64 t305] 28 (0, 0)) (by (with_reducible repeat (first | refine blk_drewN ?_ _ | refine blk_drew ?_ | refine blk_alloc ?_ _)); refine blk_put (cs := #[.slice Ao16 t293.length co16, .slice Ao19 t296.length co19, .slice Ao20 t299.length co20, .slice Ao21 t302.length co21, .int .i64 0]) ?_ 4 _ rfl; (with_reducible repeat (first | refine blk_drewN ?_ _ | refine blk_drew ?_ | refine blk_alloc ?_ _)); refine blk_put (cs := #[.slice Ao16 t293.length co16, .slice Ao19 t296.length co19, .slice Ao20 t299.length co20, .slice none 0 0, .int .i64 0]) ?_ 3 _ rfl; (with_reducible repeat (first | refine blk_drewN ?_ _ | refine blk_drew ?_ | refine blk_alloc ?_ _)); refine blk_put (cs := #[.slice Ao16 t293.length co16, .slice Ao19 t296.length co19, .slice none 0 0, .slice none 0 0, .int .i64 0]) ?_ 2 _ rfl; (with_reducible repeat (first | refine blk_drewN ?_ _ | refine blk_drew ?_ | refine blk_alloc ?_ _)); refine blk_put (cs := #[.slice Ao16 t293.length co16, .slice none 0 0, .slice none 0 0, .slice none 0 0, .int .i64 0]) ?_ 1 _ rfl; (with_reducible repeat (first | refine blk_drewN ?_ _ | refine blk_drew ?_ | refine blk_alloc ?_ _)); refine blk_put (cs := #[.slice none 0 0, .slice none 0 0, .slice none 0 0, .slice none 0 0, .int .i64 0]) ?_ 0 _ rfl; exact qB BK307.out) hb); have n7_ := Aside0.mk (below_step (qW HB.out) hb); clear HO295 HO298 HO301 HO304 BK290 BK307 HB; have HO295 := n0_; have HO298 := n1_; have HO301 := n2_; have HO304 := n3_; have HO312 := n4_; have BK290 := n5_; have BK307 := n6_; have HB := n7_; clear n0_ n1_ n2_ n3_ n4_ n5_ n6_ n7_ hb ho24) | ((with_reducible refine gate_dst (N := 57) rfl ?_); (try (refine gate_guard (by rfl) ?_; dsimp only)); refine Kd.R_make (Kd.int .i64) _ 3 rfl (N := 57) rfl 22 _ _ rfl ji7 rfl rfl Try.underlying22 (.int .i64 0) 8 info3 rfl (by decide) (by omega) 0 (ok := fun _ => True) (okp := fun _ => True) rfl (fun _ hk => hk) trivial (of_decide_eq_true (by first | (with_reducible assumption) | assumption)) (Nat.le_trans (Nat.mul_le_mul_right _ (of_decide_eq_true (by first | (with_reducible assumption) | assumption) : ji7.toNat ≤ 35184372088832)) (by omega)) (Below.refl _ _) (Nat.le_refl _) ?_; intro v314 w25 ho26 hb hg_ hnew_; clear hg_ hnew_; (first | rw [← Ny313.out] at ho26 | (simp only [Int.reduceToNat] at ho26; rw [← Ny313.out] at ho26)); have n0_ := Aside0.mk (Kd.R_elder' (qR HO295.out) (Kd.R_base ho26) hb); have n1_ := Aside0.mk (Kd.R_elder' (qR HO298.out) (Kd.R_base ho26) hb); have n2_ := Aside0.mk (Kd.R_elder' (qR HO301.out) (Kd.R_base ho26) hb); have n3_ := Aside0.mk (Kd.R_elder' (qR HO304.out) (Kd.R_base ho26) hb); have n4_ := Aside0.mk (Kd.R_elder' (qR HO312.out) (Kd.R_base ho26) hb); have n5_ := Aside0.mk (Kd.R_lower (Kd.R_new' (Kd.R_new' (Kd.R_new' (Kd.R_new' (Kd.R_new' ho26 (Kd.R_lt (qR HO295.out))) (Kd.R_lt (qR HO298.out))) (Kd.R_lt (qR HO301.out))) (Kd.R_lt (qR HO304.out))) (Kd.R_lt (qR HO312.out))) (below_size (qW HB.out))); have n6_ := Aside0.mk (blk_below (qB BK290.out) hb); have n7_ := Aside0.mk (blk_below (qB BK307.out) hb); have n8_ := Aside0.mk (below_step (qW HB.out) hb); clear HO295 HO298 HO301 HO304 HO312 BK290 BK307 HB; have HO295 := n0_; have HO298 := n1_; have HO301 := n2_; have HO304 := n3_; have HO312 := n4_; have HO315 := n5_; have BK290 := n6_; have BK307 := n7_; have HB := n8_; clear n0_ n1_ n2_ n3_ n4_ n5_ n6_ n7_ n8_ hb ho26; obtain ⟨Ao27, co27, eo27⟩ := Kd.R_slice HO315.out; subst eo27))
  go_loopg [60] k (fun kq v60 w' => ∃ (x8_1 : List Int) (x60_1 : Int), v60 = .int .i64 x60_1 ∧ Aside0 (standbylaw56_PlannerSimulates.l0 kq (l0_0.length : Int) ji7 y310 x8_1 (y313.length : Int) x60_1 l0_0 l0_1 a0_2 a0_3 a0_4 t293 t296 t299 t302 t305 = some r) ∧ Aside0 (kq ≤ k) ∧ Aside0 (Kd.R (Kd.int .i64) 3 w' w.heap.size (fun k_ => some k_ ≠ ((.slice Ao27 y313.length co27) : Value).ownBlock ∧ some k_ ≠ ((.slice Ao16 t293.length co16) : Value).ownBlock ∧ some k_ ≠ ((.slice Ao19 t296.length co19) : Value).ownBlock ∧ some k_ ≠ ((.slice Ao20 t299.length co20) : Value).ownBlock ∧ some k_ ≠ ((.slice Ao21 t302.length co21) : Value).ownBlock) v311 y310) ∧ Aside0 (Kd.R (Kd.int .i64) 3 w' w.heap.size (fun k_ => some k_ ≠ (v311 : Value).ownBlock ∧ some k_ ≠ ((.slice Ao16 t293.length co16) : Value).ownBlock ∧ some k_ ≠ ((.slice Ao19 t296.length co19) : Value).ownBlock ∧ some k_ ≠ ((.slice Ao20 t299.length co20) : Value).ownBlock ∧ some k_ ≠ ((.slice Ao21 t302.length co21) : Value).ownBlock) (.slice Ao27 y313.length co27) x8_1) ∧ Aside0 (Kd.R (Kd.int .i64) 3 w' w.heap.size (fun k_ => some k_ ≠ (v311 : Value).ownBlock ∧ some k_ ≠ ((.slice Ao27 y313.length co27) : Value).ownBlock ∧ some k_ ≠ ((.slice Ao19 t296.length co19) : Value).ownBlock ∧ some k_ ≠ ((.slice Ao20 t299.length co20) : Value).ownBlock ∧ some k_ ≠ ((.slice Ao21 t302.length co21) : Value).ownBlock) (.slice Ao16 t293.length co16) t293) ∧ Aside0 (Kd.R (Kd.int .i64) 3 w' w.heap.size (fun k_ => some k_ ≠ (v311 : Value).ownBlock ∧ some k_ ≠ ((.slice Ao27 y313.length co27) : Value).ownBlock ∧ some k_ ≠ ((.slice Ao16 t293.length co16) : Value).ownBlock ∧ some k_ ≠ ((.slice Ao20 t299.length co20) : Value).ownBlock ∧ some k_ ≠ ((.slice Ao21 t302.length co21) : Value).ownBlock) (.slice Ao19 t296.length co19) t296) ∧ Aside0 (Kd.R (Kd.int .i64) 3 w' w.heap.size (fun k_ => some k_ ≠ (v311 : Value).ownBlock ∧ some k_ ≠ ((.slice Ao27 y313.length co27) : Value).ownBlock ∧ some k_ ≠ ((.slice Ao16 t293.length co16) : Value).ownBlock ∧ some k_ ≠ ((.slice Ao19 t296.length co19) : Value).ownBlock ∧ some k_ ≠ ((.slice Ao21 t302.length co21) : Value).ownBlock) (.slice Ao20 t299.length co20) t299) ∧ Aside0 (Kd.R (Kd.int .i64) 3 w' w.heap.size (fun k_ => some k_ ≠ (v311 : Value).ownBlock ∧ some k_ ≠ ((.slice Ao27 y313.length co27) : Value).ownBlock ∧ some k_ ≠ ((.slice Ao16 t293.length co16) : Value).ownBlock ∧ some k_ ≠ ((.slice Ao19 t296.length co19) : Value).ownBlock ∧ some k_ ≠ ((.slice Ao20 t299.length co20) : Value).ownBlock) (.slice Ao21 t302.length co21) t302) ∧ Aside0 (w'.heap[gb290]? = some (.cells #[(.slice A0_0 l0_0.length c0_0), (.slice A0_1 l0_1.length c0_1), .int .i64 a0_2, .int .i64 a0_3, .int .i64 a0_4] 24 (0, 0))) ∧ Aside0 (w'.heap[gb307]? = some (.cells #[(.slice Ao16 t293.length co16), (.slice Ao19 t296.length co19), (.slice Ao20 t299.length co20), (.slice Ao21 t302.length co21), .int .i64 t305] 28 (0, 0))) ∧ Aside0 (Below w.heap.size w w'))
  case atStart => exact ⟨(y313), (0), (by first | rfl | (simp; done) | (simp [*]; done)), H', ⟨Nat.le_refl _⟩, ⟨by exact qR (Kd.R_mono HO312.out (fun _ hk => ⟨hk.2, ⟨hk.1.1.1.1.2, ⟨hk.1.1.1.2, ⟨hk.1.1.2, hk.1.2⟩⟩⟩⟩))⟩, ⟨by exact qR (Kd.R_mono HO315.out (fun _ hk => ⟨hk.2, ⟨hk.1.1.1.1.2, ⟨hk.1.1.1.2, ⟨hk.1.1.2, hk.1.2⟩⟩⟩⟩))⟩, ⟨by exact qR (Kd.R_mono HO295.out (fun _ hk => ⟨hk.1.2, ⟨hk.2, ⟨hk.1.1.1, ⟨hk.1.1.2.1, hk.1.1.2.2⟩⟩⟩⟩))⟩, ⟨by exact qR (Kd.R_mono HO298.out (fun _ hk => ⟨hk.1.2, ⟨hk.2, ⟨hk.1.1.1, ⟨hk.1.1.2.1, hk.1.1.2.2⟩⟩⟩⟩))⟩, ⟨by exact qR (Kd.R_mono HO301.out (fun _ hk => ⟨hk.1.2, ⟨hk.2, ⟨hk.1.1.1, ⟨hk.1.1.2.1, hk.1.1.2.2⟩⟩⟩⟩))⟩, ⟨by exact qR (Kd.R_mono HO304.out (fun _ hk => ⟨hk.1.2, ⟨hk.2, ⟨hk.1.1.1, ⟨hk.1.1.2.1, hk.1.1.2.2⟩⟩⟩⟩))⟩, ⟨by exact qB BK290.out⟩, ⟨by exact qB BK307.out⟩, ⟨by repeat (first | (with_reducible first | exact HB.out | apply below_alloc | apply pw_below_drewN | apply below_drew1 | refine below_set ?_ GE290.out | refine below_set ?_ GE307.out) | exact HB.out)⟩⟩
  case round =>
   clear H'
   try clear c1
   try clear c2
   try clear p2
   try clear c3
   try clear c5
   try clear c5b0
   try clear c5b1
   try clear c6
   try clear c6b0
   try clear c6b1
   try clear p6
   try clear c8
   try clear c8b0
   try clear c8b1
   try clear c9
   try clear c9b0
   try clear c9b1
   try clear c13
   try clear c17
   try clear c23
   try clear hcz11_0
   try clear hcz11_1
   try clear hcz11_2
   try clear hcz11_3
   try clear hcz11_4
   try clear hcz13_0
   try clear hcz13_1
   try clear hcz13_2
   try clear hcz13_3
   try clear hcz13_4
   try clear hcz18_0
   try clear hcz18_1
   try clear hcz18_2
   try clear hcz18_3
   try clear hcz18_4
   try clear hcz22_0
   try clear hcz22_1
   try clear hcz22_2
   try clear hcz22_3
   try clear hcz22_4
   try clear hfz11_0
   try clear hfz11_1
   try clear hfz11_2
   try clear hfz11_3
   try clear hfz11_4
   try clear hfz13_0
   try clear hfz13_1
   try clear hfz13_2
   try clear hfz13_3
   try clear hfz13_4
   try clear hfz18_0
   try clear hfz18_1
   try clear hfz18_2
   try clear hfz18_3
   try clear hfz18_4
   try clear hfz22_0
   try clear hfz22_1
   try clear hfz22_2
   try clear hfz22_3
   try clear hfz22_4
   obtain ⟨x8_1, x60_1, rfl, HA, HK1, HO_7, HO_8, HO_308000, HO_308001, HO_308002, HO_308003, BK290, BK307, HB⟩ := hrel
   have hl8_1 := (Kd.R_reads' HO_8.out).1
   rw [hl8_1] at HO_8
   (try simp only [hl8_1])
   (try simp only [hl8_1] at BK290)
   (try simp only [hl8_1] at BK307)
   (try simp only [hl8_1] at HO_7)
   (try simp only [hl8_1] at HO_308000)
   (try simp only [hl8_1] at HO_308001)
   (try simp only [hl8_1] at HO_308002)
   (try simp only [hl8_1] at HO_308003)
   cases gk with
   | zero => exact absurd HA.out (by simp [standbylaw56_PlannerSimulates.l0])
   | succ k1 =>
    have H := HA.out
    clear HA
    simp only [standbylaw56_PlannerSimulates.l0] at H
    by_cases c28 : x60_1 < (y313.length : Int)
    ·rw [if_pos c28] at H
     have c28b0 : decide (x60_1 < (y313.length : Int)) = true := decide_eq_true c28
     clear c28
     by_cases c29 : 0 ≤ x60_1
     case neg =>
      rw [if_neg c29] at H
      exact absurd H (by simp)
     rw [if_pos c29] at H
     have c29b0 : decide (0 ≤ x60_1) = true := decide_eq_true c29
     clear c29
     by_cases c30 : x60_1 < (x8_1.length : Int)
     case neg =>
      rw [if_neg c30] at H
      exact absurd H (by simp)
     rw [if_pos c30] at H
     have c30b0 : decide (x60_1 < (x8_1.length : Int)) = true := decide_eq_true c30
     clear c30
     obtain ⟨y316, hy316⟩ : ∃ y_ : List Int, y_ = (x8_1.set (x60_1 : Int).toNat (-1)) := ⟨_, rfl⟩
     replace H : (standbylaw56_PlannerSimulates.l0 k1 (l0_0.length : Int) ji7 y310 y316 (y313.length : Int) (wrap64 (x60_1 + 1)) l0_0 l0_1 a0_2 a0_3 a0_4 t293 t296 t299 t302 t305) = some r := by first | (rw [hy316]; with_reducible exact H) | (have H2_ := (Option.bind_some _ _).symm.trans H; rw [hy316]; with_reducible exact H2_) | (have H2_ := (Option.bind_some _ _).symm.trans H; with_reducible exact H2_) | with_reducible exact H | (rw [hy316]; exact H) | exact H
     have Ny316 := Aside0.mk hy316
     clear hy316
     have H' := Aside0.mk H
     clear H
     have p31 : 0 ≤ (x60_1 : Int) := of_decide_eq_true (by first | (with_reducible assumption) | assumption)
     have q31 : (x60_1 : Int) < ((x8_1.length : Int) : Int) := of_decide_eq_true (by first | (with_reducible assumption) | assumption)
     obtain ⟨go31, co31, eo31, gb31, gl31, cl31, HG31⟩ := Kd.R_form HO_8.out (by omega)
     (first | cases eo31 | (injection eo31 with ea_ en_ ec_; (first | subst ea_ | (injection ea_ with ea_; subst ea_)); subst ec_; clear en_))
     have GB31 := Aside0.mk gb31
     have GG31 := Aside0.mk HG31
     clear gb31 gl31 HG31
     obtain ⟨hx31_0, hf31_0⟩ := Kd.R_celln 0 HO_8.out (x60_1 : Int) p31 q31
     replace p31 := eq_true p31
     replace q31 := eq_true q31
     have HP32 := Kd.R_putg HO_8.out (x60_1 : Int) (-1)
     go_wp2_with (first | ((with_reducible refine gate_store (t := 3) (p := 65) rfl ?_); refine store_event (t := 3) (p := 65) (v := ?vo_w33) (w1 := (wr.setCell ⟨go31, (x60_1 : Int).toNat, none⟩ (.int .i64 (-1)))) ?hg ?ho ?hn ?hr ?_; (case ho => rfl); (case hg => rfl); (case hn => rfl); (case hr => first | (go_simp; done) | (go_simp; rfl)); intro w33 hw; have hg : wr.grownBy w33 (some go31) := (by rw [hw]; exact HP32.2); have hp_ : Kd.R (Kd.int .i64) 3 w33 w.heap.size (fun k_ => some k_ ≠ (v311 : Value).ownBlock ∧ some k_ ≠ (.slice Ao16 t293.length co16 : Value).ownBlock ∧ some k_ ≠ (.slice Ao19 t296.length co19 : Value).ownBlock ∧ some k_ ≠ (.slice Ao20 t299.length co20 : Value).ownBlock ∧ some k_ ≠ (.slice Ao21 t302.length co21 : Value).ownBlock) (.slice (some ⟨go31, 0, none⟩) x8_1.length co27) y316 := (by rw [hw, Ny316.out]; exact HP32.1); clear HP32; have n0_ := Aside0.mk (Kd.R_after (v := (.slice (some ⟨go31, 0, none⟩) x8_1.length co27)) (v1 := (.slice (some ⟨go31, 0, none⟩) x8_1.length co27)) (ok := (fun k_ => some k_ ≠ (.slice Ao16 t293.length co16 : Value).ownBlock ∧ some k_ ≠ (.slice Ao19 t296.length co19 : Value).ownBlock ∧ some k_ ≠ (.slice Ao20 t299.length co20 : Value).ownBlock ∧ some k_ ≠ (.slice Ao21 t302.length co21 : Value).ownBlock)) (qR (Kd.R_mono HO_7.out (fun _ hk => ⟨⟨hk.2.1, ⟨hk.2.2.1, ⟨hk.2.2.2.1, hk.2.2.2.2⟩⟩⟩, hk.1⟩))) hg (.inl rfl)); have n1_ := Aside0.mk (hp_); have n2_ := Aside0.mk (Kd.R_after (v := (.slice (some ⟨go31, 0, none⟩) x8_1.length co27)) (v1 := (.slice (some ⟨go31, 0, none⟩) x8_1.length co27)) (ok := (fun k_ => some k_ ≠ (v311 : Value).ownBlock ∧ some k_ ≠ (.slice Ao19 t296.length co19 : Value).ownBlock ∧ some k_ ≠ (.slice Ao20 t299.length co20 : Value).ownBlock ∧ some k_ ≠ (.slice Ao21 t302.length co21 : Value).ownBlock)) (qR (Kd.R_mono HO_308000.out (fun _ hk => ⟨⟨hk.1, ⟨hk.2.2.1, ⟨hk.2.2.2.1, hk.2.2.2.2⟩⟩⟩, hk.2.1⟩))) hg (.inl rfl)); have n3_ := Aside0.mk (Kd.R_after (v := (.slice (some ⟨go31, 0, none⟩) x8_1.length co27)) (v1 := (.slice (some ⟨go31, 0, none⟩) x8_1.length co27)) (ok := (fun k_ => some k_ ≠ (v311 : Value).ownBlock ∧ some k_ ≠ (.slice Ao16 t293.length co16 : Value).ownBlock ∧ some k_ ≠ (.slice Ao20 t299.length co20 : Value).ownBlock ∧ some k_ ≠ (.slice Ao21 t302.length co21 : Value).ownBlock)) (qR (Kd.R_mono HO_308001.out (fun _ hk => ⟨⟨hk.1, ⟨hk.2.2.1, ⟨hk.2.2.2.1, hk.2.2.2.2⟩⟩⟩, hk.2.1⟩))) hg (.inl rfl)); have n4_ := Aside0.mk (Kd.R_after (v := (.slice (some ⟨go31, 0, none⟩) x8_1.length co27)) (v1 := (.slice (some ⟨go31, 0, none⟩) x8_1.length co27)) (ok := (fun k_ => some k_ ≠ (v311 : Value).ownBlock ∧ some k_ ≠ (.slice Ao16 t293.length co16 : Value).ownBlock ∧ some k_ ≠ (.slice Ao19 t296.length co19 : Value).ownBlock ∧ some k_ ≠ (.slice Ao21 t302.length co21 : Value).ownBlock)) (qR (Kd.R_mono HO_308002.out (fun _ hk => ⟨⟨hk.1, ⟨hk.2.2.1, ⟨hk.2.2.2.1, hk.2.2.2.2⟩⟩⟩, hk.2.1⟩))) hg (.inl rfl)); have n5_ := Aside0.mk (Kd.R_after (v := (.slice (some ⟨go31, 0, none⟩) x8_1.length co27)) (v1 := (.slice (some ⟨go31, 0, none⟩) x8_1.length co27)) (ok := (fun k_ => some k_ ≠ (v311 : Value).ownBlock ∧ some k_ ≠ (.slice Ao16 t293.length co16 : Value).ownBlock ∧ some k_ ≠ (.slice Ao19 t296.length co19 : Value).ownBlock ∧ some k_ ≠ (.slice Ao20 t299.length co20 : Value).ownBlock)) (qR (Kd.R_mono HO_308003.out (fun _ hk => ⟨⟨hk.1, ⟨hk.2.2.1, ⟨hk.2.2.2.1, hk.2.2.2.2⟩⟩⟩, hk.2.1⟩))) hg (.inl rfl)); have n6_ := Aside0.mk (blk_grown (qB BK290.out) hg (Kd.R_ne HO_8.out BK290.out (by decide))); have n7_ := Aside0.mk (blk_grown (qB BK307.out) hg (Kd.R_ne HO_8.out BK307.out (by decide))); have n8_ := Aside0.mk ((by rw [hw]; exact below_set (HB.out) GB31.out : Below w.heap.size w w33)); clear HO_7 HO_8 HO_308000 HO_308001 HO_308002 HO_308003 BK290 BK307 HB; have HO_7 := n0_; have HO_8 := n1_; have HO_308000 := n2_; have HO_308001 := n3_; have HO_308002 := n4_; have HO_308003 := n5_; have BK290 := n6_; have BK307 := n7_; have HB := n8_; clear n0_ n1_ n2_ n3_ n4_ n5_ n6_ n7_ n8_ hg hw hp_))
     (try simp only [← hl8_1])
     go_roundg k1
     case measure => have := HK1.out; omega
     case rel => exact ⟨(y316), (wrap64 (x60_1 + 1)), (by first | rfl | (simp; done) | (simp [*]; done)), H', ⟨by have := HK1.out; omega⟩, ⟨by (try simp only [hl8_1]); exact qR (Kd.R_mono HO_7.out (fun _ hk => ⟨hk.2, ⟨hk.1.1, ⟨hk.1.2.1, ⟨hk.1.2.2.1, hk.1.2.2.2⟩⟩⟩⟩))⟩, ⟨by (try simp only [hl8_1]); exact qR HO_8.out⟩, ⟨by (try simp only [hl8_1]); exact qR (Kd.R_mono HO_308000.out (fun _ hk => ⟨hk.1.1, ⟨hk.2, ⟨hk.1.2.1, ⟨hk.1.2.2.1, hk.1.2.2.2⟩⟩⟩⟩))⟩, ⟨by (try simp only [hl8_1]); exact qR (Kd.R_mono HO_308001.out (fun _ hk => ⟨hk.1.1, ⟨hk.2, ⟨hk.1.2.1, ⟨hk.1.2.2.1, hk.1.2.2.2⟩⟩⟩⟩))⟩, ⟨by (try simp only [hl8_1]); exact qR (Kd.R_mono HO_308002.out (fun _ hk => ⟨hk.1.1, ⟨hk.2, ⟨hk.1.2.1, ⟨hk.1.2.2.1, hk.1.2.2.2⟩⟩⟩⟩))⟩, ⟨by (try simp only [hl8_1]); exact qR (Kd.R_mono HO_308003.out (fun _ hk => ⟨hk.1.1, ⟨hk.2, ⟨hk.1.2.1, ⟨hk.1.2.2.1, hk.1.2.2.2⟩⟩⟩⟩))⟩, ⟨by (try simp only [hl8_1]); exact qB BK290.out⟩, ⟨by (try simp only [hl8_1]); exact qB BK307.out⟩, ⟨by repeat (first | (with_reducible first | exact HB.out | apply below_alloc | apply pw_below_drewN | apply below_drew1 | refine below_set ?_ GE290.out | refine below_set ?_ GE307.out) | exact HB.out)⟩⟩
    ·rw [if_neg c28] at H
     have c28b0 : decide (x60_1 < (y313.length : Int)) = false := decide_eq_false c28
     (try simp only [hl8_1] at c28b0)
     clear c28
     have H' := Aside0.mk H
     clear H
     go_wp2
     go_loopg [10, 11, 12, 13, 14] k1 (fun kq v10 v11 v12 v13 v14 w' => ∃ (x7_2 : List Int) (x8_2 : List Int) (x10_2 : Int) (x11_2 : Int) (x12_2 : Int) (x13_2 : Int) (x14_2 : Int), v10 = .int .i64 x10_2 ∧ v11 = .int .i64 x11_2 ∧ v12 = .int .i64 x12_2 ∧ v13 = .int .i64 x13_2 ∧ v14 = .int .i64 x14_2 ∧ Aside0 (standbylaw56_PlannerSimulates.l1 kq (l0_0.length : Int) ji7 x7_2 x8_2 x10_2 x11_2 x12_2 x13_2 x14_2 l0_0 l0_1 a0_2 a0_3 a0_4 t293 t296 t299 t302 t305 = some r) ∧ Aside0 (kq ≤ k1) ∧ Aside0 (Kd.R (Kd.int .i64) 3 w' w.heap.size (fun k_ => some k_ ≠ ((.slice Ao27 x8_1.length co27) : Value).ownBlock ∧ some k_ ≠ ((.slice Ao16 t293.length co16) : Value).ownBlock ∧ some k_ ≠ ((.slice Ao19 t296.length co19) : Value).ownBlock ∧ some k_ ≠ ((.slice Ao20 t299.length co20) : Value).ownBlock ∧ some k_ ≠ ((.slice Ao21 t302.length co21) : Value).ownBlock) v311 x7_2) ∧ Aside0 (Kd.R (Kd.int .i64) 3 w' w.heap.size (fun k_ => some k_ ≠ (v311 : Value).ownBlock ∧ some k_ ≠ ((.slice Ao16 t293.length co16) : Value).ownBlock ∧ some k_ ≠ ((.slice Ao19 t296.length co19) : Value).ownBlock ∧ some k_ ≠ ((.slice Ao20 t299.length co20) : Value).ownBlock ∧ some k_ ≠ ((.slice Ao21 t302.length co21) : Value).ownBlock) (.slice Ao27 x8_1.length co27) x8_2) ∧ Aside0 (Kd.R (Kd.int .i64) 3 w' w.heap.size (fun k_ => some k_ ≠ (v311 : Value).ownBlock ∧ some k_ ≠ ((.slice Ao27 x8_1.length co27) : Value).ownBlock ∧ some k_ ≠ ((.slice Ao19 t296.length co19) : Value).ownBlock ∧ some k_ ≠ ((.slice Ao20 t299.length co20) : Value).ownBlock ∧ some k_ ≠ ((.slice Ao21 t302.length co21) : Value).ownBlock) (.slice Ao16 t293.length co16) t293) ∧ Aside0 (Kd.R (Kd.int .i64) 3 w' w.heap.size (fun k_ => some k_ ≠ (v311 : Value).ownBlock ∧ some k_ ≠ ((.slice Ao27 x8_1.length co27) : Value).ownBlock ∧ some k_ ≠ ((.slice Ao16 t293.length co16) : Value).ownBlock ∧ some k_ ≠ ((.slice Ao20 t299.length co20) : Value).ownBlock ∧ some k_ ≠ ((.slice Ao21 t302.length co21) : Value).ownBlock) (.slice Ao19 t296.length co19) t296) ∧ Aside0 (Kd.R (Kd.int .i64) 3 w' w.heap.size (fun k_ => some k_ ≠ (v311 : Value).ownBlock ∧ some k_ ≠ ((.slice Ao27 x8_1.length co27) : Value).ownBlock ∧ some k_ ≠ ((.slice Ao16 t293.length co16) : Value).ownBlock ∧ some k_ ≠ ((.slice Ao19 t296.length co19) : Value).ownBlock ∧ some k_ ≠ ((.slice Ao21 t302.length co21) : Value).ownBlock) (.slice Ao20 t299.length co20) t299) ∧ Aside0 (Kd.R (Kd.int .i64) 3 w' w.heap.size (fun k_ => some k_ ≠ (v311 : Value).ownBlock ∧ some k_ ≠ ((.slice Ao27 x8_1.length co27) : Value).ownBlock ∧ some k_ ≠ ((.slice Ao16 t293.length co16) : Value).ownBlock ∧ some k_ ≠ ((.slice Ao19 t296.length co19) : Value).ownBlock ∧ some k_ ≠ ((.slice Ao20 t299.length co20) : Value).ownBlock) (.slice Ao21 t302.length co21) t302) ∧ Aside0 (w'.heap[gb290]? = some (.cells #[(.slice A0_0 l0_0.length c0_0), (.slice A0_1 l0_1.length c0_1), .int .i64 a0_2, .int .i64 a0_3, .int .i64 a0_4] 24 (0, 0))) ∧ Aside0 (w'.heap[gb307]? = some (.cells #[(.slice Ao16 t293.length co16), (.slice Ao19 t296.length co19), (.slice Ao20 t299.length co20), (.slice Ao21 t302.length co21), .int .i64 t305] 28 (0, 0))) ∧ Aside0 (Below w.heap.size w w'))
     case atStart => exact ⟨(y310), (x8_1), (0), (0), (0), (ji7), (0), (by first | rfl | (simp; done) | (simp [*]; done)), (by first | rfl | (simp; done) | (simp [*]; done)), (by first | rfl | (simp; done) | (simp [*]; done)), (by first | rfl | (simp; done) | (simp only [← hji7] <;> (first | rfl | simp)) | (simp [*]; done)), (by first | rfl | (simp; done) | (simp [*]; done)), H', ⟨Nat.le_refl _⟩, ⟨by (try simp only [hl8_1]); exact qR HO_7.out⟩, ⟨by (try simp only [hl8_1]); exact qR HO_8.out⟩, ⟨by (try simp only [hl8_1]); exact qR HO_308000.out⟩, ⟨by (try simp only [hl8_1]); exact qR HO_308001.out⟩, ⟨by (try simp only [hl8_1]); exact qR HO_308002.out⟩, ⟨by (try simp only [hl8_1]); exact qR HO_308003.out⟩, ⟨by (try simp only [hl8_1]); exact qB BK290.out⟩, ⟨by (try simp only [hl8_1]); exact qB BK307.out⟩, ⟨by repeat (first | (with_reducible first | exact HB.out | apply below_alloc | apply pw_below_drewN | apply below_drew1 | refine below_set ?_ GE290.out | refine below_set ?_ GE307.out) | exact HB.out)⟩⟩
     case round =>
      clear H'
      try clear c1
      try clear c2
      try clear p2
      try clear c3
      try clear p3
      try clear q3
      try clear hx3
      try clear hf3
      try clear c5
      try clear c5b0
      try clear c5b1
      try clear c6
      try clear c6b0
      try clear c6b1
      try clear p6
      try clear c8
      try clear c8b0
      try clear c8b1
      try clear c9
      try clear c9b0
      try clear c9b1
      try clear c13
      try clear c17
      try clear c23
      try clear c28
      try clear c28b0
      try clear c29
      try clear c29b0
      try clear c30
      try clear c30b0
      try clear p31
      try clear q31
      try clear hx31
      try clear hf31
      try clear hcz11_0
      try clear hcz11_1
      try clear hcz11_2
      try clear hcz11_3
      try clear hcz11_4
      try clear hcz13_0
      try clear hcz13_1
      try clear hcz13_2
      try clear hcz13_3
      try clear hcz13_4
      try clear hcz18_0
      try clear hcz18_1
      try clear hcz18_2
      try clear hcz18_3
      try clear hcz18_4
      try clear hcz22_0
      try clear hcz22_1
      try clear hcz22_2
      try clear hcz22_3
      try clear hcz22_4
      try clear hfz11_0
      try clear hfz11_1
      try clear hfz11_2
      try clear hfz11_3
      try clear hfz11_4
      try clear hfz13_0
      try clear hfz13_1
      try clear hfz13_2
      try clear hfz13_3
      try clear hfz13_4
      try clear hfz18_0
      try clear hfz18_1
      try clear hfz18_2
      try clear hfz18_3
      try clear hfz18_4
      try clear hfz22_0
      try clear hfz22_1
      try clear hfz22_2
      try clear hfz22_3
      try clear hfz22_4
      try clear hx31_0
      try clear p2
      try clear p31
      try clear p6
      try clear q31
      obtain ⟨x7_2, x8_2, x10_2, x11_2, x12_2, x13_2, x14_2, rfl, rfl, rfl, rfl, rfl, HA, HK2, HO_7, HO_8, HO_308000, HO_308001, HO_308002, HO_308003, BK290, BK307, HB⟩ := hrel
      have hl8_2 := (Kd.R_reads' HO_8.out).1
      rw [hl8_2] at HO_8
      (try simp only [hl8_2])
      (try simp only [hl8_2] at BK290)
      (try simp only [hl8_2] at BK307)
      (try simp only [hl8_2] at HO_7)
      (try simp only [hl8_2] at HO_308000)
      (try simp only [hl8_2] at HO_308001)
      (try simp only [hl8_2] at HO_308002)
      (try simp only [hl8_2] at HO_308003)
      cases gk with
      | zero => exact absurd HA.out (by simp [standbylaw56_PlannerSimulates.l1])
      | succ k2 =>
       have H := HA.out
       clear HA
       simp only [standbylaw56_PlannerSimulates.l1] at H
       have HC34 := Aside0.mk H
       clear H
       go_upto_region 17 with (fail)
       go_cut [73] (fun v73 wc => ∃ (kq : Nat) (x73_33 : Bool), v73 = .bool x73_33 ∧ Aside0 (standbylaw56_PlannerSimulates.j2 kq (l0_0.length : Int) ji7 x7_2 x8_2 x10_2 x11_2 x12_2 x13_2 x14_2 x73_33 l0_0 l0_1 a0_2 a0_3 a0_4 t293 t296 t299 t302 t305 = some r) ∧ Aside0 (kq ≤ k2) ∧ Aside0 (Kd.R (Kd.int .i64) 3 wc w.heap.size (fun k_ => some k_ ≠ ((.slice Ao27 x8_2.length co27) : Value).ownBlock ∧ some k_ ≠ ((.slice Ao16 t293.length co16) : Value).ownBlock ∧ some k_ ≠ ((.slice Ao19 t296.length co19) : Value).ownBlock ∧ some k_ ≠ ((.slice Ao20 t299.length co20) : Value).ownBlock ∧ some k_ ≠ ((.slice Ao21 t302.length co21) : Value).ownBlock) v311 x7_2) ∧ Aside0 (Kd.R (Kd.int .i64) 3 wc w.heap.size (fun k_ => some k_ ≠ (v311 : Value).ownBlock ∧ some k_ ≠ ((.slice Ao16 t293.length co16) : Value).ownBlock ∧ some k_ ≠ ((.slice Ao19 t296.length co19) : Value).ownBlock ∧ some k_ ≠ ((.slice Ao20 t299.length co20) : Value).ownBlock ∧ some k_ ≠ ((.slice Ao21 t302.length co21) : Value).ownBlock) (.slice Ao27 x8_2.length co27) x8_2) ∧ Aside0 (Kd.R (Kd.int .i64) 3 wc w.heap.size (fun k_ => some k_ ≠ (v311 : Value).ownBlock ∧ some k_ ≠ ((.slice Ao27 x8_2.length co27) : Value).ownBlock ∧ some k_ ≠ ((.slice Ao19 t296.length co19) : Value).ownBlock ∧ some k_ ≠ ((.slice Ao20 t299.length co20) : Value).ownBlock ∧ some k_ ≠ ((.slice Ao21 t302.length co21) : Value).ownBlock) (.slice Ao16 t293.length co16) t293) ∧ Aside0 (Kd.R (Kd.int .i64) 3 wc w.heap.size (fun k_ => some k_ ≠ (v311 : Value).ownBlock ∧ some k_ ≠ ((.slice Ao27 x8_2.length co27) : Value).ownBlock ∧ some k_ ≠ ((.slice Ao16 t293.length co16) : Value).ownBlock ∧ some k_ ≠ ((.slice Ao20 t299.length co20) : Value).ownBlock ∧ some k_ ≠ ((.slice Ao21 t302.length co21) : Value).ownBlock) (.slice Ao19 t296.length co19) t296) ∧ Aside0 (Kd.R (Kd.int .i64) 3 wc w.heap.size (fun k_ => some k_ ≠ (v311 : Value).ownBlock ∧ some k_ ≠ ((.slice Ao27 x8_2.length co27) : Value).ownBlock ∧ some k_ ≠ ((.slice Ao16 t293.length co16) : Value).ownBlock ∧ some k_ ≠ ((.slice Ao19 t296.length co19) : Value).ownBlock ∧ some k_ ≠ ((.slice Ao21 t302.length co21) : Value).ownBlock) (.slice Ao20 t299.length co20) t299) ∧ Aside0 (Kd.R (Kd.int .i64) 3 wc w.heap.size (fun k_ => some k_ ≠ (v311 : Value).ownBlock ∧ some k_ ≠ ((.slice Ao27 x8_2.length co27) : Value).ownBlock ∧ some k_ ≠ ((.slice Ao16 t293.length co16) : Value).ownBlock ∧ some k_ ≠ ((.slice Ao19 t296.length co19) : Value).ownBlock ∧ some k_ ≠ ((.slice Ao20 t299.length co20) : Value).ownBlock) (.slice Ao21 t302.length co21) t302) ∧ Aside0 (wc.heap[gb290]? = some (.cells #[(.slice A0_0 l0_0.length c0_0), (.slice A0_1 l0_1.length c0_1), .int .i64 a0_2, .int .i64 a0_3, .int .i64 a0_4] 24 (0, 0))) ∧ Aside0 (wc.heap[gb307]? = some (.cells #[(.slice Ao16 t293.length co16), (.slice Ao19 t296.length co19), (.slice Ao20 t299.length co20), (.slice Ao21 t302.length co21), .int .i64 t305] 28 (0, 0))) ∧ Aside0 (Below w.heap.size w wc))
       case first =>
        have H := HC34.out
        clear HC34
        by_cases c35 : x13_2 > 0
        ·rw [if_pos c35] at H
         have c35b0 : decide (0 < x13_2) = true := decide_eq_true c35
         clear c35
         (first | rw [c35b0] | (simp only [i64_w, i32_w]; rw [c35b0]) | skip)
         have H' := Aside0.mk H
         clear H
         go_wp2
         go_meet
         case rel => exact ⟨_, (decide (x14_2 < 3000)), (by first | rfl | (simp; done) | (simp [*]; done)), H', ⟨by have := HK1.out; have := HK2.out; first | omega | exact Nat.le_refl _⟩, ⟨by (try simp only [hl8_1]); (try simp only [hl8_2]); exact qR HO_7.out⟩, ⟨by (try simp only [hl8_1]); (try simp only [hl8_2]); exact qR HO_8.out⟩, ⟨by (try simp only [hl8_1]); (try simp only [hl8_2]); exact qR HO_308000.out⟩, ⟨by (try simp only [hl8_1]); (try simp only [hl8_2]); exact qR HO_308001.out⟩, ⟨by (try simp only [hl8_1]); (try simp only [hl8_2]); exact qR HO_308002.out⟩, ⟨by (try simp only [hl8_1]); (try simp only [hl8_2]); exact qR HO_308003.out⟩, ⟨by (try simp only [hl8_1]); (try simp only [hl8_2]); exact qB BK290.out⟩, ⟨by (try simp only [hl8_1]); (try simp only [hl8_2]); exact qB BK307.out⟩, ⟨by repeat (first | (with_reducible first | exact HB.out | apply below_alloc | apply pw_below_drewN | apply below_drew1 | refine below_set ?_ GE290.out | refine below_set ?_ GE307.out) | exact HB.out)⟩⟩
        ·rw [if_neg c35] at H
         have c35b0 : decide (0 < x13_2) = false := decide_eq_false c35
         clear c35
         (first | rw [c35b0] | (simp only [i64_w, i32_w]; rw [c35b0]) | skip)
         have H' := Aside0.mk H
         clear H
         go_wp2
         go_meet
         case rel => exact ⟨_, (false), (by first | rfl | (simp; done) | (simp [*]; done)), H', ⟨by have := HK1.out; have := HK2.out; first | omega | exact Nat.le_refl _⟩, ⟨by (try simp only [hl8_1]); (try simp only [hl8_2]); exact qR HO_7.out⟩, ⟨by (try simp only [hl8_1]); (try simp only [hl8_2]); exact qR HO_8.out⟩, ⟨by (try simp only [hl8_1]); (try simp only [hl8_2]); exact qR HO_308000.out⟩, ⟨by (try simp only [hl8_1]); (try simp only [hl8_2]); exact qR HO_308001.out⟩, ⟨by (try simp only [hl8_1]); (try simp only [hl8_2]); exact qR HO_308002.out⟩, ⟨by (try simp only [hl8_1]); (try simp only [hl8_2]); exact qR HO_308003.out⟩, ⟨by (try simp only [hl8_1]); (try simp only [hl8_2]); exact qB BK290.out⟩, ⟨by (try simp only [hl8_1]); (try simp only [hl8_2]); exact qB BK307.out⟩, ⟨by repeat (first | (with_reducible first | exact HB.out | apply below_alloc | apply pw_below_drewN | apply below_drew1 | refine below_set ?_ GE290.out | refine below_set ?_ GE307.out) | exact HB.out)⟩⟩
       case rest =>
        clear HC34
        try clear c1
        try clear c2
        try clear p2
        try clear c3
        try clear p3
        try clear q3
        try clear hx3
        try clear hf3
        try clear c5
        try clear c5b0
        try clear c5b1
        try clear c6
        try clear c6b0
        try clear c6b1
        try clear p6
        try clear c8
        try clear c8b0
        try clear c8b1
        try clear c9
        try clear c9b0
        try clear c9b1
        try clear c13
        try clear c17
        try clear c23
        try clear c28
        try clear c28b0
        try clear c29
        try clear c29b0
        try clear c30
        try clear c30b0
        try clear p31
        try clear q31
        try clear hx31
        try clear hf31
        try clear c35
        try clear c35b0
        try clear hcz11_0
        try clear hcz11_1
        try clear hcz11_2
        try clear hcz11_3
        try clear hcz11_4
        try clear hcz13_0
        try clear hcz13_1
        try clear hcz13_2
        try clear hcz13_3
        try clear hcz13_4
        try clear hcz18_0
        try clear hcz18_1
        try clear hcz18_2
        try clear hcz18_3
        try clear hcz18_4
        try clear hcz22_0
        try clear hcz22_1
        try clear hcz22_2
        try clear hcz22_3
        try clear hcz22_4
        try clear hfz11_0
        try clear hfz11_1
        try clear hfz11_2
        try clear hfz11_3
        try clear hfz11_4
        try clear hfz13_0
        try clear hfz13_1
        try clear hfz13_2
        try clear hfz13_3
        try clear hfz13_4
        try clear hfz18_0
        try clear hfz18_1
        try clear hfz18_2
        try clear hfz18_3
        try clear hfz18_4
        try clear hfz22_0
        try clear hfz22_1
        try clear hfz22_2
        try clear hfz22_3
        try clear hfz22_4
        try clear hx31_0
        try clear p2
        try clear p3
        try clear p31
        try clear p6
        try clear q3
        try clear q31
        obtain ⟨kq, x73_33, rfl, HA, HJ33, HO_7, HO_8, HO_308000, HO_308001, HO_308002, HO_308003, BK290, BK307, HB⟩ := hcut
        cases kq with
        | zero => exact absurd HA.out (by simp [standbylaw56_PlannerSimulates.j2])
        | succ kj33 =>
         have H := HA.out
         clear HA
         simp only [standbylaw56_PlannerSimulates.j2] at H
         by_cases c36 : x73_33 = true
         case neg =>
          replace c36 := Bool.eq_false_iff.mpr c36
          subst c36
          have H1 : (if x13_2 = 0 then (if t305 = x11_2 then ((slices_Equal_int_int.f kj33 t299 x8_2).bind fun t317 => (if t317 = true then ((standbylaw56_awake.f).bind fun t318 => (some t318)) else (none))) else (none)) else (none)) = some r := by rw [if_neg (show ¬ (false = true) by decide)] at H; exact H
          clear H
          have H := H1
          clear H1
          by_cases c100 : x13_2 = 0
          case neg =>
           rw [if_neg c100] at H
           exact absurd H (by simp)
          rw [if_pos c100] at H
          have c100b0 : (x13_2 == 0) = true := beq_iff_eq.mpr c100
          have c100b1 : (x13_2 != 0) = false := bne_eq_false_iff_eq.mpr c100
          clear c100
          by_cases c101 : t305 = x11_2
          case neg =>
           rw [if_neg c101] at H
           exact absurd H (by simp)
          rw [if_pos c101] at H
          have c101b0 : (t305 == x11_2) = true := beq_iff_eq.mpr c101
          have c101b1 : (t305 != x11_2) = false := bne_eq_false_iff_eq.mpr c101
          clear c101
          replace H := Option.bind_eq_some_iff.mp H
          obtain ⟨t317, A1020, H⟩ := H
          replace H : (if t317 = true then ((standbylaw56_awake.f).bind fun t318 => (some t318)) else (none)) = some r := H
          have A102 := Aside0.mk A1020
          clear A1020
          by_cases c103 : t317 = true
          case neg =>
           replace c103 := Bool.eq_false_iff.mpr c103
           subst c103
           have H1 : (none) = some r := by rw [if_neg (show ¬ (false = true) by decide)] at H; exact H
           clear H
           have H := H1
           clear H1
           exact absurd H (by simp)
          subst c103
          have H1 : ((standbylaw56_awake.f).bind fun t318 => (some t318)) = some r := by rw [if_pos rfl] at H; exact H
          clear H
          have H := H1
          clear H1
          replace H := Option.bind_eq_some_iff.mp H
          obtain ⟨t318, A1040, H⟩ := H
          replace H : (some t318) = some r := H
          have A104 := Aside0.mk A1040
          clear A1040
          obtain rfl := Option.some.inj H
          have hnb105 := NB307_290.out
          have hnc105 := NB290_307.out
          have hcz106_0 : wc.cell? ⟨gb307, 0, none⟩ = some (.slice Ao16 t293.length co16) := (blk_cell BK307.out 0).trans rfl
          have hcz106_1 : wc.cell? ⟨gb307, 1, none⟩ = some (.slice Ao19 t296.length co19) := (blk_cell BK307.out 1).trans rfl
          have hcz106_2 : wc.cell? ⟨gb307, 2, none⟩ = some (.slice Ao20 t299.length co20) := (blk_cell BK307.out 2).trans rfl
          have hcz106_3 : wc.cell? ⟨gb307, 3, none⟩ = some (.slice Ao21 t302.length co21) := (blk_cell BK307.out 3).trans rfl
          have hcz106_4 : wc.cell? ⟨gb307, 4, none⟩ = some (.int .i64 t305) := (blk_cell BK307.out 4).trans rfl
          have hfz106_0 := blk_frozen BK307.out 0
          have hfz106_1 := blk_frozen BK307.out 1
          have hfz106_2 := blk_frozen BK307.out 2
          have hfz106_3 := blk_frozen BK307.out 3
          have hfz106_4 := blk_frozen BK307.out 4
          go_wp2_with (first | (go_at_call 25; (with_reducible refine (slices_Equal_int_int.calls kj33 _ _ t299 _ _ x8_2 true _ ?side1 ?side2 ?side3 ?side4 A102.out).mono ?_); (case side1 => repeat (first | exact (Kd.R_reads' HO_308002.out).2.2 | (with_reducible refine Kd.C_alloc ?_ _) | (with_reducible refine Kd.C_drewN ?_ _) | (with_reducible refine Kd.C_drew ?_))); (case side2 => exact (Kd.R_reads' HO_308002.out).2.1); (case side3 => repeat (first | exact (Kd.R_reads' HO_8.out).2.2 | (with_reducible refine Kd.C_alloc ?_ _) | (with_reducible refine Kd.C_drewN ?_ _) | (with_reducible refine Kd.C_drew ?_))); (case side4 => exact (Kd.R_reads' HO_8.out).2.1); rintro e w' ⟨rfl, ⟨nd, rfl⟩⟩) | (go_at_call 12; (with_reducible refine (standbylaw56_awake.calls  t318 _ A104.out).mono ?_); rintro e w107 ⟨rfl, hb⟩; have n0_ := Aside0.mk (Kd.R_below (qR HO_7.out) hb); have n1_ := Aside0.mk (Kd.R_below (qR HO_8.out) hb); have n2_ := Aside0.mk (Kd.R_below (qR HO_308000.out) hb); have n3_ := Aside0.mk (Kd.R_below (qR HO_308001.out) hb); have n4_ := Aside0.mk (Kd.R_below (qR HO_308002.out) hb); have n5_ := Aside0.mk (Kd.R_below (qR HO_308003.out) hb); have n6_ := Aside0.mk (blk_below (qB BK290.out) hb); have n7_ := Aside0.mk (blk_below (qB BK307.out) hb); have n8_ := Aside0.mk (below_step (qW HB.out) hb); clear HO_7 HO_8 HO_308000 HO_308001 HO_308002 HO_308003 BK290 BK307 HB; have HO_7 := n0_; have HO_8 := n1_; have HO_308000 := n2_; have HO_308001 := n3_; have HO_308002 := n4_; have HO_308003 := n5_; have BK290 := n6_; have BK307 := n7_; have HB := n8_; clear n0_ n1_ n2_ n3_ n4_ n5_ n6_ n7_ n8_; (try clear hb); (try clear hb2); (try clear hk); (try clear hi)))
          go_ret
          exact ⟨by first | rfl | (simp [errW_none, errW_some] <;> rfl) | (simp only [← hji7]; first | rfl | (simp [errW_none, errW_some] <;> rfl)) | (simp [*, errW_none, errW_some] <;> rfl), by repeat (first | (with_reducible first | exact HB.out | apply below_alloc | apply pw_below_drewN | apply below_drew1 | refine below_set ?_ GE290.out | refine below_set ?_ GE307.out) | exact HB.out)⟩
         subst c36
         have H1 : (if x14_2 > 0 then (if x14_2 ≤ (l0_0.length : Int) then (if a0_2 = 0 then (none) else (if 0 ≤ (wrap64 (Int.tdiv (wrap64 (x14_2 - 1)) a0_2)) then (if (wrap64 (Int.tdiv (wrap64 (x14_2 - 1)) a0_2)) < (x7_2.length : Int) then (if 0 ≤ (wrap64 (x14_2 - 1)) then (if (wrap64 (x14_2 - 1)) < (l0_0.length : Int) then (standbylaw56_PlannerSimulates.j3 kj33 (l0_0.length : Int) ji7 (x7_2.set ((wrap64 (Int.tdiv (wrap64 (x14_2 - 1)) a0_2)) : Int).toNat (wrap64 ((rd x7_2 (wrap64 (Int.tdiv (wrap64 (x14_2 - 1)) a0_2))) + (rd l0_0 (wrap64 (x14_2 - 1)))))) x8_2 x10_2 x11_2 x12_2 x13_2 x14_2 l0_0 l0_1 a0_2 a0_3 a0_4 t293 t296 t299 t302 t305) else (none)) else (none)) else (none)) else (none))) else (standbylaw56_PlannerSimulates.j3 kj33 (l0_0.length : Int) ji7 x7_2 x8_2 x10_2 x11_2 x12_2 x13_2 x14_2 l0_0 l0_1 a0_2 a0_3 a0_4 t293 t296 t299 t302 t305)) else (standbylaw56_PlannerSimulates.j5 kj33 (l0_0.length : Int) ji7 x7_2 x8_2 x10_2 x11_2 x12_2 x13_2 x14_2 l0_0 l0_1 a0_2 a0_3 a0_4 t293 t296 t299 t302 t305)) = some r := by rw [if_pos rfl] at H; exact H
         clear H
         have H := H1
         clear H1
         have HC37 := Aside0.mk H
         clear H
         go_upto_if 77 with (fail)
         go_cut [] (fun wc => ∃ (kq : Nat) (x7_36 : List Int), Aside0 (standbylaw56_PlannerSimulates.j5 kq (l0_0.length : Int) ji7 x7_36 x8_2 x10_2 x11_2 x12_2 x13_2 x14_2 l0_0 l0_1 a0_2 a0_3 a0_4 t293 t296 t299 t302 t305 = some r) ∧ Aside0 (kq ≤ kj33) ∧ Aside0 (Kd.R (Kd.int .i64) 3 wc w.heap.size (fun k_ => some k_ ≠ ((.slice Ao27 x8_2.length co27) : Value).ownBlock ∧ some k_ ≠ ((.slice Ao16 t293.length co16) : Value).ownBlock ∧ some k_ ≠ ((.slice Ao19 t296.length co19) : Value).ownBlock ∧ some k_ ≠ ((.slice Ao20 t299.length co20) : Value).ownBlock ∧ some k_ ≠ ((.slice Ao21 t302.length co21) : Value).ownBlock) v311 x7_36) ∧ Aside0 (Kd.R (Kd.int .i64) 3 wc w.heap.size (fun k_ => some k_ ≠ (v311 : Value).ownBlock ∧ some k_ ≠ ((.slice Ao16 t293.length co16) : Value).ownBlock ∧ some k_ ≠ ((.slice Ao19 t296.length co19) : Value).ownBlock ∧ some k_ ≠ ((.slice Ao20 t299.length co20) : Value).ownBlock ∧ some k_ ≠ ((.slice Ao21 t302.length co21) : Value).ownBlock) (.slice Ao27 x8_2.length co27) x8_2) ∧ Aside0 (Kd.R (Kd.int .i64) 3 wc w.heap.size (fun k_ => some k_ ≠ (v311 : Value).ownBlock ∧ some k_ ≠ ((.slice Ao27 x8_2.length co27) : Value).ownBlock ∧ some k_ ≠ ((.slice Ao19 t296.length co19) : Value).ownBlock ∧ some k_ ≠ ((.slice Ao20 t299.length co20) : Value).ownBlock ∧ some k_ ≠ ((.slice Ao21 t302.length co21) : Value).ownBlock) (.slice Ao16 t293.length co16) t293) ∧ Aside0 (Kd.R (Kd.int .i64) 3 wc w.heap.size (fun k_ => some k_ ≠ (v311 : Value).ownBlock ∧ some k_ ≠ ((.slice Ao27 x8_2.length co27) : Value).ownBlock ∧ some k_ ≠ ((.slice Ao16 t293.length co16) : Value).ownBlock ∧ some k_ ≠ ((.slice Ao20 t299.length co20) : Value).ownBlock ∧ some k_ ≠ ((.slice Ao21 t302.length co21) : Value).ownBlock) (.slice Ao19 t296.length co19) t296) ∧ Aside0 (Kd.R (Kd.int .i64) 3 wc w.heap.size (fun k_ => some k_ ≠ (v311 : Value).ownBlock ∧ some k_ ≠ ((.slice Ao27 x8_2.length co27) : Value).ownBlock ∧ some k_ ≠ ((.slice Ao16 t293.length co16) : Value).ownBlock ∧ some k_ ≠ ((.slice Ao19 t296.length co19) : Value).ownBlock ∧ some k_ ≠ ((.slice Ao21 t302.length co21) : Value).ownBlock) (.slice Ao20 t299.length co20) t299) ∧ Aside0 (Kd.R (Kd.int .i64) 3 wc w.heap.size (fun k_ => some k_ ≠ (v311 : Value).ownBlock ∧ some k_ ≠ ((.slice Ao27 x8_2.length co27) : Value).ownBlock ∧ some k_ ≠ ((.slice Ao16 t293.length co16) : Value).ownBlock ∧ some k_ ≠ ((.slice Ao19 t296.length co19) : Value).ownBlock ∧ some k_ ≠ ((.slice Ao20 t299.length co20) : Value).ownBlock) (.slice Ao21 t302.length co21) t302) ∧ Aside0 (wc.heap[gb290]? = some (.cells #[(.slice A0_0 l0_0.length c0_0), (.slice A0_1 l0_1.length c0_1), .int .i64 a0_2, .int .i64 a0_3, .int .i64 a0_4] 24 (0, 0))) ∧ Aside0 (wc.heap[gb307]? = some (.cells #[(.slice Ao16 t293.length co16), (.slice Ao19 t296.length co19), (.slice Ao20 t299.length co20), (.slice Ao21 t302.length co21), .int .i64 t305] 28 (0, 0))) ∧ Aside0 (Below w.heap.size w wc))
         case first =>
          have H := HC37.out
          clear HC37
          by_cases c38 : x14_2 > 0
          case neg =>
           rw [if_neg c38] at H
           have c38b0 : decide (0 < x14_2) = false := decide_eq_false c38
           clear c38
           (first | rw [c38b0] | (simp only [i64_w, i32_w]; rw [c38b0]) | skip)
           have H' := Aside0.mk H
           clear H
           go_wp2
           go_meet
           case rel => exact ⟨_, (x7_2), H', ⟨by have := HK1.out; have := HK2.out; have := HJ33.out; first | omega | exact Nat.le_refl _⟩, ⟨by (try simp only [hl8_1]); (try simp only [hl8_2]); exact qR HO_7.out⟩, ⟨by (try simp only [hl8_1]); (try simp only [hl8_2]); exact qR HO_8.out⟩, ⟨by (try simp only [hl8_1]); (try simp only [hl8_2]); exact qR HO_308000.out⟩, ⟨by (try simp only [hl8_1]); (try simp only [hl8_2]); exact qR HO_308001.out⟩, ⟨by (try simp only [hl8_1]); (try simp only [hl8_2]); exact qR HO_308002.out⟩, ⟨by (try simp only [hl8_1]); (try simp only [hl8_2]); exact qR HO_308003.out⟩, ⟨by (try simp only [hl8_1]); (try simp only [hl8_2]); exact qB BK290.out⟩, ⟨by (try simp only [hl8_1]); (try simp only [hl8_2]); exact qB BK307.out⟩, ⟨by repeat (first | (with_reducible first | exact HB.out | apply below_alloc | apply pw_below_drewN | apply below_drew1 | refine below_set ?_ GE290.out | refine below_set ?_ GE307.out) | exact HB.out)⟩⟩
          rw [if_pos c38] at H
          have c38b0 : decide (0 < x14_2) = true := decide_eq_true c38
          clear c38
          (first | rw [c38b0] | (simp only [i64_w, i32_w]; rw [c38b0]) | skip)
          have HC39 := Aside0.mk H
          clear H
          go_upto_if 80 with (fail)
          go_cut [] (fun wc => ∃ (kq : Nat) (x7_38 : List Int), Aside0 (standbylaw56_PlannerSimulates.j3 kq (l0_0.length : Int) ji7 x7_38 x8_2 x10_2 x11_2 x12_2 x13_2 x14_2 l0_0 l0_1 a0_2 a0_3 a0_4 t293 t296 t299 t302 t305 = some r) ∧ Aside0 (kq ≤ kj33) ∧ Aside0 (Kd.R (Kd.int .i64) 3 wc w.heap.size (fun k_ => some k_ ≠ ((.slice Ao27 x8_2.length co27) : Value).ownBlock ∧ some k_ ≠ ((.slice Ao16 t293.length co16) : Value).ownBlock ∧ some k_ ≠ ((.slice Ao19 t296.length co19) : Value).ownBlock ∧ some k_ ≠ ((.slice Ao20 t299.length co20) : Value).ownBlock ∧ some k_ ≠ ((.slice Ao21 t302.length co21) : Value).ownBlock) v311 x7_38) ∧ Aside0 (Kd.R (Kd.int .i64) 3 wc w.heap.size (fun k_ => some k_ ≠ (v311 : Value).ownBlock ∧ some k_ ≠ ((.slice Ao16 t293.length co16) : Value).ownBlock ∧ some k_ ≠ ((.slice Ao19 t296.length co19) : Value).ownBlock ∧ some k_ ≠ ((.slice Ao20 t299.length co20) : Value).ownBlock ∧ some k_ ≠ ((.slice Ao21 t302.length co21) : Value).ownBlock) (.slice Ao27 x8_2.length co27) x8_2) ∧ Aside0 (Kd.R (Kd.int .i64) 3 wc w.heap.size (fun k_ => some k_ ≠ (v311 : Value).ownBlock ∧ some k_ ≠ ((.slice Ao27 x8_2.length co27) : Value).ownBlock ∧ some k_ ≠ ((.slice Ao19 t296.length co19) : Value).ownBlock ∧ some k_ ≠ ((.slice Ao20 t299.length co20) : Value).ownBlock ∧ some k_ ≠ ((.slice Ao21 t302.length co21) : Value).ownBlock) (.slice Ao16 t293.length co16) t293) ∧ Aside0 (Kd.R (Kd.int .i64) 3 wc w.heap.size (fun k_ => some k_ ≠ (v311 : Value).ownBlock ∧ some k_ ≠ ((.slice Ao27 x8_2.length co27) : Value).ownBlock ∧ some k_ ≠ ((.slice Ao16 t293.length co16) : Value).ownBlock ∧ some k_ ≠ ((.slice Ao20 t299.length co20) : Value).ownBlock ∧ some k_ ≠ ((.slice Ao21 t302.length co21) : Value).ownBlock) (.slice Ao19 t296.length co19) t296) ∧ Aside0 (Kd.R (Kd.int .i64) 3 wc w.heap.size (fun k_ => some k_ ≠ (v311 : Value).ownBlock ∧ some k_ ≠ ((.slice Ao27 x8_2.length co27) : Value).ownBlock ∧ some k_ ≠ ((.slice Ao16 t293.length co16) : Value).ownBlock ∧ some k_ ≠ ((.slice Ao19 t296.length co19) : Value).ownBlock ∧ some k_ ≠ ((.slice Ao21 t302.length co21) : Value).ownBlock) (.slice Ao20 t299.length co20) t299) ∧ Aside0 (Kd.R (Kd.int .i64) 3 wc w.heap.size (fun k_ => some k_ ≠ (v311 : Value).ownBlock ∧ some k_ ≠ ((.slice Ao27 x8_2.length co27) : Value).ownBlock ∧ some k_ ≠ ((.slice Ao16 t293.length co16) : Value).ownBlock ∧ some k_ ≠ ((.slice Ao19 t296.length co19) : Value).ownBlock ∧ some k_ ≠ ((.slice Ao20 t299.length co20) : Value).ownBlock) (.slice Ao21 t302.length co21) t302) ∧ Aside0 (wc.heap[gb290]? = some (.cells #[(.slice A0_0 l0_0.length c0_0), (.slice A0_1 l0_1.length c0_1), .int .i64 a0_2, .int .i64 a0_3, .int .i64 a0_4] 24 (0, 0))) ∧ Aside0 (wc.heap[gb307]? = some (.cells #[(.slice Ao16 t293.length co16), (.slice Ao19 t296.length co19), (.slice Ao20 t299.length co20), (.slice Ao21 t302.length co21), .int .i64 t305] 28 (0, 0))) ∧ Aside0 (Below w.heap.size w wc))
          case first =>
           have H := HC39.out
           clear HC39
           by_cases c40 : x14_2 ≤ (l0_0.length : Int)
           case neg =>
            rw [if_neg c40] at H
            have c40b0 : decide (x14_2 ≤ (l0_0.length : Int)) = false := decide_eq_false c40
            clear c40
            (first | rw [c40b0] | (simp only [i64_w, i32_w]; rw [c40b0]) | skip)
            have H' := Aside0.mk H
            clear H
            go_wp2
            go_meet
            case rel => exact ⟨_, (x7_2), H', ⟨by have := HK1.out; have := HK2.out; have := HJ33.out; first | omega | exact Nat.le_refl _⟩, ⟨by (try simp only [hl8_1]); (try simp only [hl8_2]); exact qR HO_7.out⟩, ⟨by (try simp only [hl8_1]); (try simp only [hl8_2]); exact qR HO_8.out⟩, ⟨by (try simp only [hl8_1]); (try simp only [hl8_2]); exact qR HO_308000.out⟩, ⟨by (try simp only [hl8_1]); (try simp only [hl8_2]); exact qR HO_308001.out⟩, ⟨by (try simp only [hl8_1]); (try simp only [hl8_2]); exact qR HO_308002.out⟩, ⟨by (try simp only [hl8_1]); (try simp only [hl8_2]); exact qR HO_308003.out⟩, ⟨by (try simp only [hl8_1]); (try simp only [hl8_2]); exact qB BK290.out⟩, ⟨by (try simp only [hl8_1]); (try simp only [hl8_2]); exact qB BK307.out⟩, ⟨by repeat (first | (with_reducible first | exact HB.out | apply below_alloc | apply pw_below_drewN | apply below_drew1 | refine below_set ?_ GE290.out | refine below_set ?_ GE307.out) | exact HB.out)⟩⟩
           rw [if_pos c40] at H
           have c40b0 : decide (x14_2 ≤ (l0_0.length : Int)) = true := decide_eq_true c40
           clear c40
           (first | rw [c40b0] | (simp only [i64_w, i32_w]; rw [c40b0]) | skip)
           by_cases c41 : a0_2 = 0
           ·rw [if_pos c41] at H
            exact absurd H (by simp)
           ·rw [if_neg c41] at H
            have c41b0 : (a0_2 == 0) = false := beq_eq_false_iff_ne.mpr c41
            have c41b1 : (a0_2 != 0) = true := bne_iff_ne.mpr c41
            obtain ⟨ji42, hji42⟩ : ∃ j_ : Int, (wrap64 (Int.tdiv (wrap64 (x14_2 - 1)) a0_2)) = j_ := ⟨_, rfl⟩
            replace H : (if 0 ≤ (ji42) then (if (ji42) < (x7_2.length : Int) then (if 0 ≤ (wrap64 (x14_2 - 1)) then (if (wrap64 (x14_2 - 1)) < (l0_0.length : Int) then (standbylaw56_PlannerSimulates.j3 kj33 (l0_0.length : Int) ji7 (x7_2.set ((ji42) : Int).toNat (wrap64 ((rd x7_2 (ji42)) + (rd l0_0 (wrap64 (x14_2 - 1)))))) x8_2 x10_2 x11_2 x12_2 x13_2 x14_2 l0_0 l0_1 a0_2 a0_3 a0_4 t293 t296 t299 t302 t305) else (none)) else (none)) else (none)) else (none)) = some r := by first | (rw [hji42] at H; exact H) | (simp only [hji42] at H ⊢; exact H)
            have hji42w : (IntKind.i64.wrap (Int.tdiv (wrap64 (x14_2 - 1)) a0_2)) = ji42 := (i64_w _).trans hji42
            by_cases c43 : 0 ≤ (ji42)
            case neg =>
             rw [if_neg c43] at H
             exact absurd H (by simp)
            rw [if_pos c43] at H
            have c43b0 : decide (0 ≤ (ji42)) = true := decide_eq_true c43
            clear c43
            by_cases c44 : (ji42) < (x7_2.length : Int)
            case neg =>
             rw [if_neg c44] at H
             exact absurd H (by simp)
            rw [if_pos c44] at H
            have c44b0 : decide ((ji42) < (x7_2.length : Int)) = true := decide_eq_true c44
            clear c44
            obtain ⟨ji45, hji45⟩ : ∃ j_ : Int, (wrap64 (x14_2 - 1)) = j_ := ⟨_, rfl⟩
            replace H : (if 0 ≤ (ji45) then (if (ji45) < (l0_0.length : Int) then (standbylaw56_PlannerSimulates.j3 kj33 (l0_0.length : Int) ji7 (x7_2.set ((ji42) : Int).toNat (wrap64 ((rd x7_2 (ji42)) + (rd l0_0 (ji45))))) x8_2 x10_2 x11_2 x12_2 x13_2 x14_2 l0_0 l0_1 a0_2 a0_3 a0_4 t293 t296 t299 t302 t305) else (none)) else (none)) = some r := by first | (rw [hji45] at H; exact H) | (simp only [hji45] at H ⊢; exact H)
            have hji45w : (IntKind.i64.wrap (x14_2 - 1)) = ji45 := (i64_w _).trans hji45
            (try rw [hji45] at hji42)
            (try rw [hji45] at hji42w)
            by_cases c46 : 0 ≤ (ji45)
            case neg =>
             rw [if_neg c46] at H
             exact absurd H (by simp)
            rw [if_pos c46] at H
            have c46b0 : decide (0 ≤ (ji45)) = true := decide_eq_true c46
            clear c46
            by_cases c47 : (ji45) < (l0_0.length : Int)
            case neg =>
             rw [if_neg c47] at H
             exact absurd H (by simp)
            rw [if_pos c47] at H
            have c47b0 : decide ((ji45) < (l0_0.length : Int)) = true := decide_eq_true c47
            clear c47
            obtain ⟨y321, hy321⟩ : ∃ y_ : List Int, y_ = (x7_2.set ((ji42) : Int).toNat (wrap64 ((rd x7_2 (ji42)) + (rd l0_0 (ji45))))) := ⟨_, rfl⟩
            replace H : (standbylaw56_PlannerSimulates.j3 kj33 (l0_0.length : Int) ji7 y321 x8_2 x10_2 x11_2 x12_2 x13_2 x14_2 l0_0 l0_1 a0_2 a0_3 a0_4 t293 t296 t299 t302 t305) = some r := by first | (rw [hy321]; with_reducible exact H) | (have H2_ := (Option.bind_some _ _).symm.trans H; rw [hy321]; with_reducible exact H2_) | (have H2_ := (Option.bind_some _ _).symm.trans H; with_reducible exact H2_) | with_reducible exact H | (rw [hy321]; exact H) | exact H
            have Ny321 := Aside0.mk hy321
            clear hy321
            have H' := Aside0.mk H
            clear H
            try go_wp2
            have n0_ := Aside0.mk (Kd.R_drew HO_7.out)
            have n1_ := Aside0.mk (Kd.R_drew HO_8.out)
            have n2_ := Aside0.mk (Kd.R_drew HO_308000.out)
            have n3_ := Aside0.mk (Kd.R_drew HO_308001.out)
            have n4_ := Aside0.mk (Kd.R_drew HO_308002.out)
            have n5_ := Aside0.mk (Kd.R_drew HO_308003.out)
            have n6_ := Aside0.mk (blk_drew BK290.out)
            have n7_ := Aside0.mk (blk_drew BK307.out)
            have n8_ := Aside0.mk (below_drew1 HB.out)
            clear HO_7 HO_8 HO_308000 HO_308001 HO_308002 HO_308003 BK290 BK307 HB
            have HO_7 := n0_
            have HO_8 := n1_
            have HO_308000 := n2_
            have HO_308001 := n3_
            have HO_308002 := n4_
            have HO_308003 := n5_
            have BK290 := n6_
            have BK307 := n7_
            have HB := n8_
            clear n0_ n1_ n2_ n3_ n4_ n5_ n6_ n7_ n8_
            obtain ⟨Ao50, co50, eo50⟩ := Kd.R_slice HO_7.out
            (first | subst eo50 | (injection eo50 with f1_ f2_ f3_; have f4_ := f1_.symm; have f5_ := f3_.symm; clear f1_ f2_ f3_; subst f4_; subst f5_))
            have p319 : 0 ≤ ((ji42) : Int) := of_decide_eq_true (by first | (with_reducible assumption) | assumption)
            have q319 : (ji42) < (x7_2.length : Int) := of_decide_eq_true (by first | (with_reducible assumption) | assumption)
            obtain ⟨ad319, e319, hx319_0⟩ := Kd.at_int (Kd.R_reads' HO_7.out).2.2 (ji42) p319 q319
            cases e319
            replace p319 := eq_true p319
            replace q319 := eq_true q319
            have p320 : 0 ≤ ((ji45) : Int) := of_decide_eq_true (by first | (with_reducible assumption) | assumption)
            have q320 : (ji45) < (l0_0.length : Int) := of_decide_eq_true (by first | (with_reducible assumption) | assumption)
            obtain ⟨ad320, e320, hx320_0⟩ := Kd.at_int HR0_0.out (ji45) p320 q320
            have hw320_0 := hx320_0
            cases e320
            replace hx320_0 := (HB.out.cell (World.block_lt_of_cell? w _ hx320_0)).trans hx320_0
            replace p320 := eq_true p320
            replace q320 := eq_true q320
            have p48 : 0 ≤ ((ji42) : Int) := of_decide_eq_true (by first | (with_reducible assumption) | assumption)
            have q48 : ((ji42) : Int) < ((x7_2.length : Int) : Int) := of_decide_eq_true (by first | (with_reducible assumption) | assumption)
            obtain ⟨go48, co48, eo48, gb48, gl48, cl48, HG48⟩ := Kd.R_form HO_7.out (by omega)
            (first | cases eo48 | (injection eo48 with ea_ en_ ec_; (first | subst ea_ | (injection ea_ with ea_; subst ea_)); subst ec_; clear en_))
            have GB48 := Aside0.mk gb48
            have GG48 := Aside0.mk HG48
            clear gb48 gl48 HG48
            (first | simp only [add_plain] at hx319_0 | skip)
            obtain ⟨hx48_0, hf48_0⟩ := Kd.R_celln 0 HO_7.out ((ji42) : Int) p48 q48
            replace p48 := eq_true p48
            replace q48 := eq_true q48
            have HP51 := Kd.R_putn HO_7.out ((ji42) : Int) (wrap64 ((rd x7_2 (ji42)) + (rd l0_0 (ji45))))
            rw [← Ny321.out] at HP51
            have HQ51 := Aside0.mk HP51
            clear HP51
            refine start_ (n := 17) (S := fun w' => w'.cell? ⟨gb290, 0, none⟩ = some (.slice (some ad320) l0_0.length c0_0) ∧ w'.cell? ⟨gb290, 1, none⟩ = some (.slice A0_1 l0_1.length c0_1) ∧ w'.cell? ⟨gb290, 2, none⟩ = some (.int .i64 a0_2) ∧ w'.cell? ⟨gb290, 3, none⟩ = some (.int .i64 a0_3) ∧ w'.cell? ⟨gb290, 4, none⟩ = some (.int .i64 a0_4) ∧ w'.cell? ⟨go48, ((ji42)).toNat, none⟩ = some (.int .i64 (rd x7_2 (ji42))) ∧ w'.cell? (ad320.add ((ji45)).toNat) = some (.int .i64 (rd l0_0 (ji45)))) (ds := [16]) #[false, false, false, false, false, false, false, false, false, false, false, false, false, false, false, false, false] (by kernel_rfl) rfl rfl ⟨(blk_cell BK290.out 0).trans rfl, (blk_cell BK290.out 1).trans rfl, (blk_cell BK290.out 2).trans rfl, (blk_cell BK290.out 3).trans rfl, (blk_cell BK290.out 4).trans rfl, hx319_0, ((HB.out.cell (World.block_lt_of_cell? w _ hw320_0)).trans hw320_0)⟩ (fun hHeld => ?_); refine with_tabW standbylaw56_PlannerSimulates.tab21 standbylaw56_PlannerSimulates.bits21 (fun HT_ HW_ => ?_)
            generalize wc.drew = w49 at HO_7 HO_8 HO_308000 HO_308001 HO_308002 HO_308003 BK290 BK307 HB GG48 HQ51 hf48_0 hx319_0 hx320_0 hx48_0 hHeld ⊢
            refine pS (i := 0) (N := some 81) #[true, false, false, false, false, false, false, false, false, false, false, false, false, false, false, false, false] rfl rfl HT_.out ?_
            refine pS (i := 1) (N := some 82) #[true, true, false, false, false, false, false, false, false, false, false, false, false, false, false, false, false] rfl rfl HT_.out ?_
            refine pS (i := 2) (N := some 83) #[true, true, true, false, false, false, false, false, false, false, false, false, false, false, false, false, false] rfl rfl HT_.out ?_
            refine pS (i := 3) (N := some 84) #[true, true, true, true, false, false, false, false, false, false, false, false, false, false, false, false, false] rfl rfl HT_.out ?_
            refine pS (i := 8) (N := some 89) #[true, true, true, true, false, false, false, false, true, false, false, false, false, false, false, false, false] rfl rfl HT_.out ?_
            refine pS (i := 10) (N := some 91) #[true, true, true, true, false, false, false, false, true, false, true, false, false, false, false, false, false] rfl rfl HT_.out ?_
            refine pS (i := 11) (N := some 92) #[true, true, true, true, false, false, false, false, true, false, true, true, false, false, false, false, false] rfl rfl HT_.out ?_
            refine take_ (i := 4) (N := some 85) (v := ?_) (a' := ?_) #[true, true, true, true, true, false, false, false, true, false, true, true, false, false, false, false, false] rfl rfl (take_ofW HT_.out HW_.out (by kernel_rfl)) (fun _ _ _ h => h) (Or.inl ⟨by rfl, ?_⟩) hHeld ?_ ?_; rotate_left
            ·rintro w' ⟨s0, s1, s2, s3, s4, s5, s6⟩
             go_simp
             with_reducible rfl
            rotate_left
            ·simp only [Act.put, List.setIfInBounds_toArray, List.set_cons_zero, List.set_cons_succ, i64_w, i32_w]
             rfl
            refine pS (i := 5) (N := some 86) #[true, true, true, true, true, true, false, false, true, false, true, true, false, false, false, false, false] rfl rfl HT_.out ?_
            refine pS (i := 6) (N := some 87) #[true, true, true, true, true, true, true, false, true, false, true, true, false, false, false, false, false] rfl rfl HT_.out ?_
            refine take_ (i := 7) (N := some 88) (v := ?_) (a' := ?_) #[true, true, true, true, true, true, true, true, true, false, true, true, false, false, false, false, false] rfl rfl (take_ofW HT_.out HW_.out (by kernel_rfl)) (fun _ _ _ h => h) (Or.inl ⟨by rfl, ?_⟩) hHeld ?_ ?_; rotate_left
            ·rintro w' ⟨s0, s1, s2, s3, s4, s5, s6⟩
             go_simp
             with_reducible rfl
            rotate_left
            ·simp only [Act.put, List.setIfInBounds_toArray, List.set_cons_zero, List.set_cons_succ, i64_w, i32_w]
             rfl
            refine take_ (i := 9) (N := some 90) (v := ?_) (a' := ?_) #[true, true, true, true, true, true, true, true, true, true, true, true, false, false, false, false, false] rfl rfl (take_ofW HT_.out HW_.out (by kernel_rfl)) (fun _ _ _ h => h) (Or.inl ⟨by rfl, ?_⟩) hHeld ?_ ?_; rotate_left
            ·rintro w' ⟨s0, s1, s2, s3, s4, s5, s6⟩
             go_simp
             with_reducible rfl
            rotate_left
            ·simp only [Act.put, List.setIfInBounds_toArray, List.set_cons_zero, List.set_cons_succ, i64_w, i32_w]
             rfl
            refine pS (i := 12) (N := some 93) #[true, true, true, true, true, true, true, true, true, true, true, true, true, false, false, false, false] rfl rfl HT_.out ?_
            refine take_ (i := 13) (N := some 94) (v := ?_) (a' := ?_) #[true, true, true, true, true, true, true, true, true, true, true, true, true, true, false, false, false] rfl rfl (take_ofW HT_.out HW_.out (by kernel_rfl)) (fun _ _ _ h => h) (Or.inl ⟨by rfl, ?_⟩) hHeld ?_ ?_; rotate_left
            ·rintro w' ⟨s0, s1, s2, s3, s4, s5, s6⟩
             go_simp
             with_reducible rfl
            rotate_left
            ·simp only [Act.put, List.setIfInBounds_toArray, List.set_cons_zero, List.set_cons_succ, i64_w, i32_w]
             rfl
            refine pS (i := 14) (N := some 95) #[true, true, true, true, true, true, true, true, true, true, true, true, true, true, true, false, false] rfl rfl HT_.out ?_
            refine pS (i := 15) (N := some 96) #[true, true, true, true, true, true, true, true, true, true, true, true, true, true, true, true, false] rfl rfl HT_.out ?_
            refine last_ (i := 16) (N := none) #[true, true, true, true, true, true, true, true, true, true, true, true, true, true, true, true, true] rfl rfl (one_of HT_.out (by kernel_rfl)) (by decide) (fun K hK => ?_)
            refine skip_ (w1 := ?_) (by rfl) rfl ?_ ?_; rotate_left
            ·go_simp
             rfl
            refine hK.out _ _ ?_; clear hK K
            refine done_ (done_of HT_.out (by kernel_rfl)) ?_
            try go_wp2
            go_meet
            case rel => exact ⟨_, (y321), H', ⟨by have := HK1.out; have := HK2.out; have := HJ33.out; first | omega | exact Nat.le_refl _⟩, ⟨by (try simp only [hl8_1]); (try simp only [hl8_2]); exact qR HQ51.out⟩, ⟨by (try simp only [hl8_1]); (try simp only [hl8_2]); exact qR (Kd.R_mono (Kd.R_far (p := ⟨go48, ((ji42) : Int).toNat, none⟩) (Kd.R_mono HO_8.out (fun k_ hk => (⟨hk, fun e_ => hk.1 (by rw [e_]; rfl)⟩ : _ ∧ k_ ≠ go48))) (fun _ hk => hk.2) (.int .i64 (wrap64 ((rd x7_2 (ji42)) + (rd l0_0 (ji45)))))) (fun _ hk => ⟨hk.1.1, ⟨hk.1.2.1, ⟨hk.1.2.2.1, ⟨hk.1.2.2.2.1, hk.1.2.2.2.2⟩⟩⟩⟩))⟩, ⟨by (try simp only [hl8_1]); (try simp only [hl8_2]); exact qR (Kd.R_mono (Kd.R_far (p := ⟨go48, ((ji42) : Int).toNat, none⟩) (Kd.R_mono HO_308000.out (fun k_ hk => (⟨hk, fun e_ => hk.1 (by rw [e_]; rfl)⟩ : _ ∧ k_ ≠ go48))) (fun _ hk => hk.2) (.int .i64 (wrap64 ((rd x7_2 (ji42)) + (rd l0_0 (ji45)))))) (fun _ hk => ⟨hk.1.1, ⟨hk.1.2.1, ⟨hk.1.2.2.1, ⟨hk.1.2.2.2.1, hk.1.2.2.2.2⟩⟩⟩⟩))⟩, ⟨by (try simp only [hl8_1]); (try simp only [hl8_2]); exact qR (Kd.R_mono (Kd.R_far (p := ⟨go48, ((ji42) : Int).toNat, none⟩) (Kd.R_mono HO_308001.out (fun k_ hk => (⟨hk, fun e_ => hk.1 (by rw [e_]; rfl)⟩ : _ ∧ k_ ≠ go48))) (fun _ hk => hk.2) (.int .i64 (wrap64 ((rd x7_2 (ji42)) + (rd l0_0 (ji45)))))) (fun _ hk => ⟨hk.1.1, ⟨hk.1.2.1, ⟨hk.1.2.2.1, ⟨hk.1.2.2.2.1, hk.1.2.2.2.2⟩⟩⟩⟩))⟩, ⟨by (try simp only [hl8_1]); (try simp only [hl8_2]); exact qR (Kd.R_mono (Kd.R_far (p := ⟨go48, ((ji42) : Int).toNat, none⟩) (Kd.R_mono HO_308002.out (fun k_ hk => (⟨hk, fun e_ => hk.1 (by rw [e_]; rfl)⟩ : _ ∧ k_ ≠ go48))) (fun _ hk => hk.2) (.int .i64 (wrap64 ((rd x7_2 (ji42)) + (rd l0_0 (ji45)))))) (fun _ hk => ⟨hk.1.1, ⟨hk.1.2.1, ⟨hk.1.2.2.1, ⟨hk.1.2.2.2.1, hk.1.2.2.2.2⟩⟩⟩⟩))⟩, ⟨by (try simp only [hl8_1]); (try simp only [hl8_2]); exact qR (Kd.R_mono (Kd.R_far (p := ⟨go48, ((ji42) : Int).toNat, none⟩) (Kd.R_mono HO_308003.out (fun k_ hk => (⟨hk, fun e_ => hk.1 (by rw [e_]; rfl)⟩ : _ ∧ k_ ≠ go48))) (fun _ hk => hk.2) (.int .i64 (wrap64 ((rd x7_2 (ji42)) + (rd l0_0 (ji45)))))) (fun _ hk => ⟨hk.1.1, ⟨hk.1.2.1, ⟨hk.1.2.2.1, ⟨hk.1.2.2.2.1, hk.1.2.2.2.2⟩⟩⟩⟩))⟩, ⟨by (try simp only [hl8_1]); (try simp only [hl8_2]); (with_reducible repeat (first | refine blk_drewN ?_ _ | refine blk_drew ?_ | refine blk_alloc ?_ _)); refine blk_far ?_ (by have h_ := Kd.R_ne HO_7.out BK290.out (by decide); intro e_; exact h_ (by rw [e_]; rfl)) _; exact qB BK290.out⟩, ⟨by (try simp only [hl8_1]); (try simp only [hl8_2]); (with_reducible repeat (first | refine blk_drewN ?_ _ | refine blk_drew ?_ | refine blk_alloc ?_ _)); refine blk_far ?_ (by have h_ := Kd.R_ne HO_7.out BK307.out (by decide); intro e_; exact h_ (by rw [e_]; rfl)) _; exact qB BK307.out⟩, ⟨by repeat (first | (with_reducible first | exact HB.out | apply below_alloc | apply pw_below_drewN | apply below_drew1 | refine below_set ?_ GB48.out | refine below_set ?_ GE290.out | refine below_set ?_ GE307.out) | exact HB.out)⟩⟩
          case rest =>
           clear HC39
           try clear c1
           try clear c2
           try clear p2
           try clear c3
           try clear p3
           try clear q3
           try clear hx3
           try clear hf3
           try clear c4
           try clear p4
           try clear q4
           try clear hx4
           try clear hf4
           try clear c5
           try clear c5b0
           try clear c5b1
           try clear c6
           try clear c6b0
           try clear c6b1
           try clear p6
           try clear c8
           try clear c8b0
           try clear c8b1
           try clear c9
           try clear c9b0
           try clear c9b1
           try clear c13
           try clear c17
           try clear c23
           try clear c28
           try clear c28b0
           try clear c29
           try clear c29b0
           try clear c30
           try clear c30b0
           try clear p31
           try clear q31
           try clear hx31
           try clear hf31
           try clear p32
           try clear q32
           try clear hx32
           try clear c35
           try clear c35b0
           try clear c36
           try clear c38
           try clear c38b0
           try clear c40
           try clear c40b0
           try clear c41
           try clear c41b0
           try clear c41b1
           try clear c43
           try clear c43b0
           try clear c44
           try clear c44b0
           try clear c46
           try clear c46b0
           try clear c47
           try clear c47b0
           try clear p48
           try clear q48
           try clear hx48
           try clear hf48
           try clear hcz11_0
           try clear hcz11_1
           try clear hcz11_2
           try clear hcz11_3
           try clear hcz11_4
           try clear hcz13_0
           try clear hcz13_1
           try clear hcz13_2
           try clear hcz13_3
           try clear hcz13_4
           try clear hcz18_0
           try clear hcz18_1
           try clear hcz18_2
           try clear hcz18_3
           try clear hcz18_4
           try clear hcz22_0
           try clear hcz22_1
           try clear hcz22_2
           try clear hcz22_3
           try clear hcz22_4
           try clear hfz11_0
           try clear hfz11_1
           try clear hfz11_2
           try clear hfz11_3
           try clear hfz11_4
           try clear hfz13_0
           try clear hfz13_1
           try clear hfz13_2
           try clear hfz13_3
           try clear hfz13_4
           try clear hfz18_0
           try clear hfz18_1
           try clear hfz18_2
           try clear hfz18_3
           try clear hfz18_4
           try clear hfz22_0
           try clear hfz22_1
           try clear hfz22_2
           try clear hfz22_3
           try clear hfz22_4
           try clear hx319_0
           try clear hx31_0
           try clear hx320_0
           try clear hx48_0
           try clear p2
           try clear p3
           try clear p31
           try clear p319
           try clear p320
           try clear p48
           try clear p6
           try clear q3
           try clear q31
           try clear q319
           try clear q320
           try clear q48
           obtain ⟨kq, x7_38, HA, HJ38, HO_7, HO_8, HO_308000, HO_308001, HO_308002, HO_308003, BK290, BK307, HB⟩ := hcut
           cases kq with
           | zero => exact absurd HA.out (by simp [standbylaw56_PlannerSimulates.j3])
           | succ kj38 =>
            have H := HA.out
            clear HA
            simp only [standbylaw56_PlannerSimulates.j3] at H
            have HC52 := Aside0.mk H
            clear H
            go_upto_region 22 with (fail)
            go_cut [116] (fun v116 wc => ∃ (kq : Nat) (x116_51 : Bool), v116 = .bool x116_51 ∧ Aside0 (standbylaw56_PlannerSimulates.j4 kq (l0_0.length : Int) ji7 x7_38 x8_2 x10_2 x11_2 x12_2 x13_2 x14_2 x116_51 l0_0 l0_1 a0_2 a0_3 a0_4 t293 t296 t299 t302 t305 = some r) ∧ Aside0 (kq ≤ kj38) ∧ Aside0 (Kd.R (Kd.int .i64) 3 wc w.heap.size (fun k_ => some k_ ≠ ((.slice Ao27 x8_2.length co27) : Value).ownBlock ∧ some k_ ≠ ((.slice Ao16 t293.length co16) : Value).ownBlock ∧ some k_ ≠ ((.slice Ao19 t296.length co19) : Value).ownBlock ∧ some k_ ≠ ((.slice Ao20 t299.length co20) : Value).ownBlock ∧ some k_ ≠ ((.slice Ao21 t302.length co21) : Value).ownBlock) v311 x7_38) ∧ Aside0 (Kd.R (Kd.int .i64) 3 wc w.heap.size (fun k_ => some k_ ≠ (v311 : Value).ownBlock ∧ some k_ ≠ ((.slice Ao16 t293.length co16) : Value).ownBlock ∧ some k_ ≠ ((.slice Ao19 t296.length co19) : Value).ownBlock ∧ some k_ ≠ ((.slice Ao20 t299.length co20) : Value).ownBlock ∧ some k_ ≠ ((.slice Ao21 t302.length co21) : Value).ownBlock) (.slice Ao27 x8_2.length co27) x8_2) ∧ Aside0 (Kd.R (Kd.int .i64) 3 wc w.heap.size (fun k_ => some k_ ≠ (v311 : Value).ownBlock ∧ some k_ ≠ ((.slice Ao27 x8_2.length co27) : Value).ownBlock ∧ some k_ ≠ ((.slice Ao19 t296.length co19) : Value).ownBlock ∧ some k_ ≠ ((.slice Ao20 t299.length co20) : Value).ownBlock ∧ some k_ ≠ ((.slice Ao21 t302.length co21) : Value).ownBlock) (.slice Ao16 t293.length co16) t293) ∧ Aside0 (Kd.R (Kd.int .i64) 3 wc w.heap.size (fun k_ => some k_ ≠ (v311 : Value).ownBlock ∧ some k_ ≠ ((.slice Ao27 x8_2.length co27) : Value).ownBlock ∧ some k_ ≠ ((.slice Ao16 t293.length co16) : Value).ownBlock ∧ some k_ ≠ ((.slice Ao20 t299.length co20) : Value).ownBlock ∧ some k_ ≠ ((.slice Ao21 t302.length co21) : Value).ownBlock) (.slice Ao19 t296.length co19) t296) ∧ Aside0 (Kd.R (Kd.int .i64) 3 wc w.heap.size (fun k_ => some k_ ≠ (v311 : Value).ownBlock ∧ some k_ ≠ ((.slice Ao27 x8_2.length co27) : Value).ownBlock ∧ some k_ ≠ ((.slice Ao16 t293.length co16) : Value).ownBlock ∧ some k_ ≠ ((.slice Ao19 t296.length co19) : Value).ownBlock ∧ some k_ ≠ ((.slice Ao21 t302.length co21) : Value).ownBlock) (.slice Ao20 t299.length co20) t299) ∧ Aside0 (Kd.R (Kd.int .i64) 3 wc w.heap.size (fun k_ => some k_ ≠ (v311 : Value).ownBlock ∧ some k_ ≠ ((.slice Ao27 x8_2.length co27) : Value).ownBlock ∧ some k_ ≠ ((.slice Ao16 t293.length co16) : Value).ownBlock ∧ some k_ ≠ ((.slice Ao19 t296.length co19) : Value).ownBlock ∧ some k_ ≠ ((.slice Ao20 t299.length co20) : Value).ownBlock) (.slice Ao21 t302.length co21) t302) ∧ Aside0 (wc.heap[gb290]? = some (.cells #[(.slice A0_0 l0_0.length c0_0), (.slice A0_1 l0_1.length c0_1), .int .i64 a0_2, .int .i64 a0_3, .int .i64 a0_4] 24 (0, 0))) ∧ Aside0 (wc.heap[gb307]? = some (.cells #[(.slice Ao16 t293.length co16), (.slice Ao19 t296.length co19), (.slice Ao20 t299.length co20), (.slice Ao21 t302.length co21), .int .i64 t305] 28 (0, 0))) ∧ Aside0 (Below w.heap.size w wc))
            case first =>
             have H := HC52.out
             clear HC52
             by_cases c53 : x10_2 < ji7
             case neg =>
              rw [if_neg c53] at H
              have c53b0 : decide (x10_2 < ji7) = false := decide_eq_false c53
              clear c53
              (first | rw [c53b0] | (simp only [i64_w, i32_w]; rw [c53b0]) | skip)
              have H' := Aside0.mk H
              clear H
              go_wp2
              go_meet
              case rel => exact ⟨_, (false), (by first | rfl | (simp; done) | (simp [*]; done)), H', ⟨by have := HK1.out; have := HK2.out; have := HJ33.out; have := HJ38.out; first | omega | exact Nat.le_refl _⟩, ⟨by (try simp only [hl8_1]); (try simp only [hl8_2]); exact qR HO_7.out⟩, ⟨by (try simp only [hl8_1]); (try simp only [hl8_2]); exact qR HO_8.out⟩, ⟨by (try simp only [hl8_1]); (try simp only [hl8_2]); exact qR HO_308000.out⟩, ⟨by (try simp only [hl8_1]); (try simp only [hl8_2]); exact qR HO_308001.out⟩, ⟨by (try simp only [hl8_1]); (try simp only [hl8_2]); exact qR HO_308002.out⟩, ⟨by (try simp only [hl8_1]); (try simp only [hl8_2]); exact qR HO_308003.out⟩, ⟨by (try simp only [hl8_1]); (try simp only [hl8_2]); exact qB BK290.out⟩, ⟨by (try simp only [hl8_1]); (try simp only [hl8_2]); exact qB BK307.out⟩, ⟨by repeat (first | (with_reducible first | exact HB.out | apply below_alloc | apply pw_below_drewN | apply below_drew1 | refine below_set ?_ GE290.out | refine below_set ?_ GE307.out) | exact HB.out)⟩⟩
             rw [if_pos c53] at H
             have c53b0 : decide (x10_2 < ji7) = true := decide_eq_true c53
             clear c53
             (first | rw [c53b0] | (simp only [i64_w, i32_w]; rw [c53b0]) | skip)
             by_cases c54 : (wrap64 (x14_2 - 1)) ≥ (wrap64 ((wrap64 (x10_2 + 1)) * a0_2))
             case neg =>
              rw [if_neg c54] at H
              have c54b0 : decide ((wrap64 ((wrap64 (x10_2 + 1)) * a0_2)) ≤ (wrap64 (x14_2 - 1))) = false := decide_eq_false c54
              clear c54
              have H' := Aside0.mk H
              clear H
              have hnb60 := NB290_307.out
              have hnc60 := NB307_290.out
              have hcz61_0 : wc.cell? ⟨gb290, 0, none⟩ = some (.slice A0_0 l0_0.length c0_0) := (blk_cell BK290.out 0).trans rfl
              have hcz61_1 : wc.cell? ⟨gb290, 1, none⟩ = some (.slice A0_1 l0_1.length c0_1) := (blk_cell BK290.out 1).trans rfl
              have hcz61_2 : wc.cell? ⟨gb290, 2, none⟩ = some (.int .i64 a0_2) := (blk_cell BK290.out 2).trans rfl
              have hcz61_3 : wc.cell? ⟨gb290, 3, none⟩ = some (.int .i64 a0_3) := (blk_cell BK290.out 3).trans rfl
              have hcz61_4 : wc.cell? ⟨gb290, 4, none⟩ = some (.int .i64 a0_4) := (blk_cell BK290.out 4).trans rfl
              have hfz61_0 := blk_frozen BK290.out 0
              have hfz61_1 := blk_frozen BK290.out 1
              have hfz61_2 := blk_frozen BK290.out 2
              have hfz61_3 := blk_frozen BK290.out 3
              have hfz61_4 := blk_frozen BK290.out 4
              go_wp2
              go_meet
              case rel => exact ⟨_, (false), (by first | rfl | (simp; done) | (simp [*]; done)), H', ⟨by have := HK1.out; have := HK2.out; have := HJ33.out; have := HJ38.out; first | omega | exact Nat.le_refl _⟩, ⟨by (try simp only [hl8_1]); (try simp only [hl8_2]); exact qR HO_7.out⟩, ⟨by (try simp only [hl8_1]); (try simp only [hl8_2]); exact qR HO_8.out⟩, ⟨by (try simp only [hl8_1]); (try simp only [hl8_2]); exact qR HO_308000.out⟩, ⟨by (try simp only [hl8_1]); (try simp only [hl8_2]); exact qR HO_308001.out⟩, ⟨by (try simp only [hl8_1]); (try simp only [hl8_2]); exact qR HO_308002.out⟩, ⟨by (try simp only [hl8_1]); (try simp only [hl8_2]); exact qR HO_308003.out⟩, ⟨by (try simp only [hl8_1]); (try simp only [hl8_2]); exact qB BK290.out⟩, ⟨by (try simp only [hl8_1]); (try simp only [hl8_2]); exact qB BK307.out⟩, ⟨by repeat (first | (with_reducible first | exact HB.out | apply below_alloc | apply pw_below_drewN | apply below_drew1 | refine below_set ?_ GE290.out | refine below_set ?_ GE307.out) | exact HB.out)⟩⟩
             rw [if_pos c54] at H
             have c54b0 : decide ((wrap64 ((wrap64 (x10_2 + 1)) * a0_2)) ≤ (wrap64 (x14_2 - 1))) = true := decide_eq_true c54
             clear c54
             by_cases c55 : 0 ≤ x10_2
             case neg =>
              rw [if_neg c55] at H
              exact absurd H (by simp)
             rw [if_pos c55] at H
             have c55b0 : decide (0 ≤ x10_2) = true := decide_eq_true c55
             clear c55
             by_cases c56 : x10_2 < (x7_38.length : Int)
             case neg =>
              rw [if_neg c56] at H
              exact absurd H (by simp)
             rw [if_pos c56] at H
             have c56b0 : decide (x10_2 < (x7_38.length : Int)) = true := decide_eq_true c56
             clear c56
             have H' := Aside0.mk H
             clear H
             have hnb57 := NB290_307.out
             have hnc57 := NB307_290.out
             have hcz58_0 : wc.cell? ⟨gb290, 0, none⟩ = some (.slice A0_0 l0_0.length c0_0) := (blk_cell BK290.out 0).trans rfl
             have hcz58_1 : wc.cell? ⟨gb290, 1, none⟩ = some (.slice A0_1 l0_1.length c0_1) := (blk_cell BK290.out 1).trans rfl
             have hcz58_2 : wc.cell? ⟨gb290, 2, none⟩ = some (.int .i64 a0_2) := (blk_cell BK290.out 2).trans rfl
             have hcz58_3 : wc.cell? ⟨gb290, 3, none⟩ = some (.int .i64 a0_3) := (blk_cell BK290.out 3).trans rfl
             have hcz58_4 : wc.cell? ⟨gb290, 4, none⟩ = some (.int .i64 a0_4) := (blk_cell BK290.out 4).trans rfl
             have hfz58_0 := blk_frozen BK290.out 0
             have hfz58_1 := blk_frozen BK290.out 1
             have hfz58_2 := blk_frozen BK290.out 2
             have hfz58_3 := blk_frozen BK290.out 3
             have hfz58_4 := blk_frozen BK290.out 4
             obtain ⟨Ao59, co59, eo59⟩ := Kd.R_slice HO_7.out
             subst eo59
             have p322 : 0 ≤ (x10_2 : Int) := of_decide_eq_true (by first | (with_reducible assumption) | assumption)
             have q322 : x10_2 < (x7_38.length : Int) := of_decide_eq_true (by first | (with_reducible assumption) | assumption)
             obtain ⟨ad322, e322, hx322_0⟩ := Kd.at_int (Kd.R_reads' HO_7.out).2.2 x10_2 p322 q322
             cases e322
             replace p322 := eq_true p322
             replace q322 := eq_true q322
             go_wp2
             go_meet
             case rel => exact ⟨_, (decide ((rd x7_38 x10_2) > 0)), (by first | rfl | (simp; done) | (simp [*]; done)), H', ⟨by have := HK1.out; have := HK2.out; have := HJ33.out; have := HJ38.out; first | omega | exact Nat.le_refl _⟩, ⟨by (try simp only [hl8_1]); (try simp only [hl8_2]); exact qR HO_7.out⟩, ⟨by (try simp only [hl8_1]); (try simp only [hl8_2]); exact qR HO_8.out⟩, ⟨by (try simp only [hl8_1]); (try simp only [hl8_2]); exact qR HO_308000.out⟩, ⟨by (try simp only [hl8_1]); (try simp only [hl8_2]); exact qR HO_308001.out⟩, ⟨by (try simp only [hl8_1]); (try simp only [hl8_2]); exact qR HO_308002.out⟩, ⟨by (try simp only [hl8_1]); (try simp only [hl8_2]); exact qR HO_308003.out⟩, ⟨by (try simp only [hl8_1]); (try simp only [hl8_2]); exact qB BK290.out⟩, ⟨by (try simp only [hl8_1]); (try simp only [hl8_2]); exact qB BK307.out⟩, ⟨by repeat (first | (with_reducible first | exact HB.out | apply below_alloc | apply pw_below_drewN | apply below_drew1 | refine below_set ?_ GE290.out | refine below_set ?_ GE307.out) | exact HB.out)⟩⟩
            case rest =>
             clear HC52
             try clear c1
             try clear c2
             try clear p2
             try clear c3
             try clear p3
             try clear q3
             try clear hx3
             try clear hf3
             try clear c4
             try clear p4
             try clear q4
             try clear hx4
             try clear hf4
             try clear c5
             try clear c5b0
             try clear c5b1
             try clear c6
             try clear c6b0
             try clear c6b1
             try clear p6
             try clear c8
             try clear c8b0
             try clear c8b1
             try clear c9
             try clear c9b0
             try clear c9b1
             try clear c13
             try clear c17
             try clear c23
             try clear c28
             try clear c28b0
             try clear c29
             try clear c29b0
             try clear c30
             try clear c30b0
             try clear p31
             try clear q31
             try clear hx31
             try clear hf31
             try clear p32
             try clear q32
             try clear hx32
             try clear c35
             try clear c35b0
             try clear c36
             try clear c38
             try clear c38b0
             try clear c40
             try clear c40b0
             try clear c41
             try clear c41b0
             try clear c41b1
             try clear c43
             try clear c43b0
             try clear c44
             try clear c44b0
             try clear c46
             try clear c46b0
             try clear c47
             try clear c47b0
             try clear p48
             try clear q48
             try clear hx48
             try clear hf48
             try clear c53
             try clear c53b0
             try clear c54
             try clear c54b0
             try clear c55
             try clear c55b0
             try clear c56
             try clear c56b0
             try clear c57
             try clear c60
             try clear hcz11_0
             try clear hcz11_1
             try clear hcz11_2
             try clear hcz11_3
             try clear hcz11_4
             try clear hcz13_0
             try clear hcz13_1
             try clear hcz13_2
             try clear hcz13_3
             try clear hcz13_4
             try clear hcz18_0
             try clear hcz18_1
             try clear hcz18_2
             try clear hcz18_3
             try clear hcz18_4
             try clear hcz22_0
             try clear hcz22_1
             try clear hcz22_2
             try clear hcz22_3
             try clear hcz22_4
             try clear hcz58_0
             try clear hcz58_1
             try clear hcz58_2
             try clear hcz58_3
             try clear hcz58_4
             try clear hcz61_0
             try clear hcz61_1
             try clear hcz61_2
             try clear hcz61_3
             try clear hcz61_4
             try clear hfz11_0
             try clear hfz11_1
             try clear hfz11_2
             try clear hfz11_3
             try clear hfz11_4
             try clear hfz13_0
             try clear hfz13_1
             try clear hfz13_2
             try clear hfz13_3
             try clear hfz13_4
             try clear hfz18_0
             try clear hfz18_1
             try clear hfz18_2
             try clear hfz18_3
             try clear hfz18_4
             try clear hfz22_0
             try clear hfz22_1
             try clear hfz22_2
             try clear hfz22_3
             try clear hfz22_4
             try clear hfz58_0
             try clear hfz58_1
             try clear hfz58_2
             try clear hfz58_3
             try clear hfz58_4
             try clear hfz61_0
             try clear hfz61_1
             try clear hfz61_2
             try clear hfz61_3
             try clear hfz61_4
             try clear hx319_0
             try clear hx31_0
             try clear hx320_0
             try clear hx322_0
             try clear hx48_0
             try clear p2
             try clear p3
             try clear p31
             try clear p319
             try clear p32
             try clear p320
             try clear p322
             try clear p4
             try clear p48
             try clear p6
             try clear q3
             try clear q31
             try clear q319
             try clear q32
             try clear q320
             try clear q322
             try clear q4
             try clear q48
             obtain ⟨kq, x116_51, rfl, HA, HJ51, HO_7, HO_8, HO_308000, HO_308001, HO_308002, HO_308003, BK290, BK307, HB⟩ := hcut
             cases kq with
             | zero => exact absurd HA.out (by simp [standbylaw56_PlannerSimulates.j4])
             | succ kj51 =>
              have H := HA.out
              clear HA
              simp only [standbylaw56_PlannerSimulates.j4] at H
              by_cases c62 : x116_51 = true
              case neg =>
               replace c62 := Bool.eq_false_iff.mpr c62
               subst c62
               have H1 : (standbylaw56_PlannerSimulates.j5 kj51 (l0_0.length : Int) ji7 x7_38 x8_2 x10_2 x11_2 x12_2 x13_2 x14_2 l0_0 l0_1 a0_2 a0_3 a0_4 t293 t296 t299 t302 t305) = some r := by rw [if_neg (show ¬ (false = true) by decide)] at H; exact H
               clear H
               have H := H1
               clear H1
               have H' := Aside0.mk H
               clear H
               go_wp2
               go_meet
               case rel => exact ⟨_, (x7_38), H', ⟨by have := HK1.out; have := HK2.out; have := HJ33.out; have := HJ38.out; have := HJ51.out; first | omega | exact Nat.le_refl _⟩, ⟨by (try simp only [hl8_1]); (try simp only [hl8_2]); exact qR HO_7.out⟩, ⟨by (try simp only [hl8_1]); (try simp only [hl8_2]); exact qR HO_8.out⟩, ⟨by (try simp only [hl8_1]); (try simp only [hl8_2]); exact qR HO_308000.out⟩, ⟨by (try simp only [hl8_1]); (try simp only [hl8_2]); exact qR HO_308001.out⟩, ⟨by (try simp only [hl8_1]); (try simp only [hl8_2]); exact qR HO_308002.out⟩, ⟨by (try simp only [hl8_1]); (try simp only [hl8_2]); exact qR HO_308003.out⟩, ⟨by (try simp only [hl8_1]); (try simp only [hl8_2]); exact qB BK290.out⟩, ⟨by (try simp only [hl8_1]); (try simp only [hl8_2]); exact qB BK307.out⟩, ⟨by repeat (first | (with_reducible first | exact HB.out | apply below_alloc | apply pw_below_drewN | apply below_drew1 | refine below_set ?_ GE290.out | refine below_set ?_ GE307.out) | exact HB.out)⟩⟩
              subst c62
              have H1 : (if 0 ≤ x10_2 then (if x10_2 < (x7_38.length : Int) then ((standbylaw56_capacity.f l0_0 l0_1 a0_2 a0_3 a0_4 (wrap64 (x14_2 - 1))).bind fun t324 => (standbylaw56_PlannerSimulates.j5 kj51 (l0_0.length : Int) ji7 (x7_38.set (x10_2 : Int).toNat (wrap64 ((rd x7_38 x10_2) - t324))) x8_2 x10_2 x11_2 x12_2 x13_2 x14_2 l0_0 l0_1 a0_2 a0_3 a0_4 t293 t296 t299 t302 t305)) else (none)) else (none)) = some r := by rw [if_pos rfl] at H; exact H
              clear H
              have H := H1
              clear H1
              by_cases c63 : 0 ≤ x10_2
              case neg =>
               rw [if_neg c63] at H
               exact absurd H (by simp)
              rw [if_pos c63] at H
              have c63b0 : decide (0 ≤ x10_2) = true := decide_eq_true c63
              clear c63
              by_cases c64 : x10_2 < (x7_38.length : Int)
              case neg =>
               rw [if_neg c64] at H
               exact absurd H (by simp)
              rw [if_pos c64] at H
              have c64b0 : decide (x10_2 < (x7_38.length : Int)) = true := decide_eq_true c64
              clear c64
              replace H := Option.bind_eq_some_iff.mp H
              obtain ⟨t324, A650, H⟩ := H
              replace H : (standbylaw56_PlannerSimulates.j5 kj51 (l0_0.length : Int) ji7 (x7_38.set (x10_2 : Int).toNat (wrap64 ((rd x7_38 x10_2) - t324))) x8_2 x10_2 x11_2 x12_2 x13_2 x14_2 l0_0 l0_1 a0_2 a0_3 a0_4 t293 t296 t299 t302 t305) = some r := H
              have A65 := Aside0.mk A650
              clear A650
              obtain ⟨y325, hy325⟩ : ∃ y_ : List Int, y_ = (x7_38.set (x10_2 : Int).toNat (wrap64 ((rd x7_38 x10_2) - t324))) := ⟨_, rfl⟩
              replace H : (standbylaw56_PlannerSimulates.j5 kj51 (l0_0.length : Int) ji7 y325 x8_2 x10_2 x11_2 x12_2 x13_2 x14_2 l0_0 l0_1 a0_2 a0_3 a0_4 t293 t296 t299 t302 t305) = some r := by first | (rw [hy325]; with_reducible exact H) | (have H2_ := (Option.bind_some _ _).symm.trans H; rw [hy325]; with_reducible exact H2_) | (have H2_ := (Option.bind_some _ _).symm.trans H; with_reducible exact H2_) | with_reducible exact H | (rw [hy325]; exact H) | exact H
              have Ny325 := Aside0.mk hy325
              clear hy325
              have H' := Aside0.mk H
              clear H
              try go_wp2
              have n0_ := Aside0.mk (Kd.R_drew HO_7.out)
              have n1_ := Aside0.mk (Kd.R_drew HO_8.out)
              have n2_ := Aside0.mk (Kd.R_drew HO_308000.out)
              have n3_ := Aside0.mk (Kd.R_drew HO_308001.out)
              have n4_ := Aside0.mk (Kd.R_drew HO_308002.out)
              have n5_ := Aside0.mk (Kd.R_drew HO_308003.out)
              have n6_ := Aside0.mk (blk_drew BK290.out)
              have n7_ := Aside0.mk (blk_drew BK307.out)
              have n8_ := Aside0.mk (below_drew1 HB.out)
              clear HO_7 HO_8 HO_308000 HO_308001 HO_308002 HO_308003 BK290 BK307 HB
              have HO_7 := n0_
              have HO_8 := n1_
              have HO_308000 := n2_
              have HO_308001 := n3_
              have HO_308002 := n4_
              have HO_308003 := n5_
              have BK290 := n6_
              have BK307 := n7_
              have HB := n8_
              clear n0_ n1_ n2_ n3_ n4_ n5_ n6_ n7_ n8_
              obtain ⟨Ao68, co68, eo68⟩ := Kd.R_slice HO_7.out
              (first | subst eo68 | (injection eo68 with f1_ f2_ f3_; have f4_ := f1_.symm; have f5_ := f3_.symm; clear f1_ f2_ f3_; subst f4_; subst f5_))
              have p323 : 0 ≤ (x10_2 : Int) := of_decide_eq_true (by first | (with_reducible assumption) | assumption)
              have q323 : x10_2 < (x7_38.length : Int) := of_decide_eq_true (by first | (with_reducible assumption) | assumption)
              obtain ⟨ad323, e323, hx323_0⟩ := Kd.at_int (Kd.R_reads' HO_7.out).2.2 x10_2 p323 q323
              cases e323
              replace p323 := eq_true p323
              replace q323 := eq_true q323
              refine start_ (n := 11) (S := fun w' => w'.cell? ⟨gb290, 0, none⟩ = some (.slice A0_0 l0_0.length c0_0) ∧ w'.cell? ⟨gb290, 1, none⟩ = some (.slice A0_1 l0_1.length c0_1) ∧ w'.cell? ⟨gb290, 2, none⟩ = some (.int .i64 a0_2) ∧ w'.cell? ⟨gb290, 3, none⟩ = some (.int .i64 a0_3) ∧ w'.cell? ⟨gb290, 4, none⟩ = some (.int .i64 a0_4) ∧ w'.cell? (ad323.add (x10_2).toNat) = some (.int .i64 (rd x7_38 x10_2))) (ds := [10]) #[false, false, false, false, false, false, false, false, false, false, false] (by kernel_rfl) rfl rfl ⟨(blk_cell BK290.out 0).trans rfl, (blk_cell BK290.out 1).trans rfl, (blk_cell BK290.out 2).trans rfl, (blk_cell BK290.out 3).trans rfl, (blk_cell BK290.out 4).trans rfl, hx323_0⟩ (fun hHeld => ?_); refine with_tabW standbylaw56_PlannerSimulates.tab23 standbylaw56_PlannerSimulates.bits23 (fun HT_ HW_ => ?_)
              generalize wc.drew = w67 at HO_7 HO_8 HO_308000 HO_308001 HO_308002 HO_308003 BK290 BK307 HB hx323_0 hHeld ⊢
              refine pS (i := 0) (N := some 117) #[true, false, false, false, false, false, false, false, false, false, false] rfl rfl HT_.out ?_
              refine pS (i := 1) (N := some 118) #[true, true, false, false, false, false, false, false, false, false, false] rfl rfl HT_.out ?_
              refine pS (i := 2) (N := some 119) #[true, true, true, false, false, false, false, false, false, false, false] rfl rfl HT_.out ?_
              refine pS (i := 5) (N := some 122) #[true, true, true, false, false, true, false, false, false, false, false] rfl rfl HT_.out ?_
              refine pS (i := 6) (N := some 123) #[true, true, true, false, false, true, true, false, false, false, false] rfl rfl HT_.out ?_
              refine take_ (i := 3) (N := some 120) (v := ?_) (a' := ?_) #[true, true, true, true, false, true, true, false, false, false, false] rfl rfl (take_ofW HT_.out HW_.out (by kernel_rfl)) (fun _ _ _ h => h) (Or.inl ⟨by rfl, ?_⟩) hHeld ?_ ?_; rotate_left
              ·rintro w' ⟨s0, s1, s2, s3, s4, s5⟩
               go_simp
               with_reducible rfl
              rotate_left
              ·simp only [Act.put, List.setIfInBounds_toArray, List.set_cons_zero, List.set_cons_succ, i64_w, i32_w]
               rfl
              refine take_ (i := 4) (N := some 121) (v := ?_) (a' := ?_) #[true, true, true, true, true, true, true, false, false, false, false] rfl rfl (take_ofW HT_.out HW_.out (by kernel_rfl)) (fun _ _ _ h => h) (Or.inl ⟨by rfl, ?_⟩) hHeld ?_ ?_; rotate_left
              ·rintro w' ⟨s0, s1, s2, s3, s4, s5⟩
               go_simp
               with_reducible rfl
              rotate_left
              ·simp only [Act.put, List.setIfInBounds_toArray, List.set_cons_zero, List.set_cons_succ, i64_w, i32_w]
               rfl
              refine one_ (i := 7) (N := some 124) #[true, true, true, true, true, true, true, true, false, false, false] rfl rfl (one_of HT_.out (by kernel_rfl)) (by decide) (fun K hK => ?_)
              refine goes_ Try.func24 (by kernel_rfl) rfl #[.agg #[.slice A0_0 l0_0.length c0_0, .slice A0_1 l0_1.length c0_1, .int .i64 a0_2, .int .i64 a0_3, .int .i64 a0_4], .int .i64 (wrap64 (x14_2 - 1))] (by rfl) rfl rfl (by (try simp only [List.map_toArray, List.map_cons, List.map_nil]); first | done | rfl | (simp only [List.length_drop, List.length_take]; rfl)) ?_
              with_reducible refine (standbylaw56_capacity.calls _ _ l0_0 _ _ l0_1 a0_2 a0_3 a0_4 (wrap64 (x14_2 - 1)) t324 _ ?side1 ?side2 ?side3 ?side4 A65.out).mono ?_
              (case side1 => exact qC HR0_0.out HB.out)
              (case side2 => exact HC0_0.out)
              (case side3 => exact qC HR0_1.out HB.out)
              (case side4 => exact HC0_1.out)
              rintro e w69 ⟨rfl, hb⟩
              have HS5_ := (hb.cell (World.block_lt_of_cell? _ _ (hHeld.2.2.2.2.2))).trans (hHeld.2.2.2.2.2)
              refine ⟨_, rfl, ?_⟩
              have n0_ := Aside0.mk (Kd.R_below (qR HO_7.out) hb)
              have n1_ := Aside0.mk (Kd.R_below (qR HO_8.out) hb)
              have n2_ := Aside0.mk (Kd.R_below (qR HO_308000.out) hb)
              have n3_ := Aside0.mk (Kd.R_below (qR HO_308001.out) hb)
              have n4_ := Aside0.mk (Kd.R_below (qR HO_308002.out) hb)
              have n5_ := Aside0.mk (Kd.R_below (qR HO_308003.out) hb)
              have n6_ := Aside0.mk (blk_below (qB BK290.out) hb)
              have n7_ := Aside0.mk (blk_below (qB BK307.out) hb)
              have n8_ := Aside0.mk (below_step (qW HB.out) hb)
              clear HO_7 HO_8 HO_308000 HO_308001 HO_308002 HO_308003 BK290 BK307 HB
              have HO_7 := n0_
              have HO_8 := n1_
              have HO_308000 := n2_
              have HO_308001 := n3_
              have HO_308002 := n4_
              have HO_308003 := n5_
              have BK290 := n6_
              have BK307 := n7_
              have HB := n8_
              clear n0_ n1_ n2_ n3_ n4_ n5_ n6_ n7_ n8_
              (try clear hb); (try clear hb2); (try clear hk); (try clear hi)
              have p66 : 0 ≤ (x10_2 : Int) := of_decide_eq_true (by first | (with_reducible assumption) | assumption)
              have q66 : (x10_2 : Int) < ((x7_38.length : Int) : Int) := of_decide_eq_true (by first | (with_reducible assumption) | assumption)
              obtain ⟨go66, co66, eo66, gb66, gl66, cl66, HG66⟩ := Kd.R_form HO_7.out (by omega)
              (first | cases eo66 | (injection eo66 with ea_ en_ ec_; (first | subst ea_ | (injection ea_ with ea_; subst ea_)); subst ec_; clear en_))
              have GB66 := Aside0.mk gb66
              have GG66 := Aside0.mk HG66
              clear gb66 gl66 HG66
              (first | simp only [add_plain] at hx323_0 | skip)
              obtain ⟨hx66_0, hf66_0⟩ := Kd.R_celln 0 HO_7.out (x10_2 : Int) p66 q66
              replace p66 := eq_true p66
              replace q66 := eq_true q66
              have HP70 := Kd.R_putn HO_7.out (x10_2 : Int) (wrap64 ((rd x7_38 x10_2) - t324))
              rw [← Ny325.out] at HP70
              have HQ70 := Aside0.mk HP70
              clear HP70
              refine hK.out _ _ ⟨(blk_cell BK290.out 0).trans rfl, (blk_cell BK290.out 1).trans rfl, (blk_cell BK290.out 2).trans rfl, (blk_cell BK290.out 3).trans rfl, (blk_cell BK290.out 4).trans rfl, HS5_⟩ (fun hHeld => ?_); clear hK K
              refine norm_ (a' := ?_) ?_ ?_; rotate_left
              ·show Act.put _ (some 124) _ = _
               simp only [Act.put, List.setIfInBounds_toArray, List.set_cons_zero, List.set_cons_succ, i64_w, i32_w]
               rfl
              refine pS (i := 8) (N := some 125) #[true, true, true, true, true, true, true, true, true, false, false] rfl rfl HT_.out ?_
              refine pS (i := 9) (N := some 126) #[true, true, true, true, true, true, true, true, true, true, false] rfl rfl HT_.out ?_
              refine last_ (i := 10) (N := none) #[true, true, true, true, true, true, true, true, true, true, true] rfl rfl (one_of HT_.out (by kernel_rfl)) (by decide) (fun K hK => ?_)
              refine skip_ (w1 := ?_) (by rfl) rfl ?_ ?_; rotate_left
              ·go_simp
               rfl
              refine hK.out _ _ ?_; clear hK K
              refine done_ (done_of HT_.out (by kernel_rfl)) ?_
              try go_wp2
              go_meet
              case rel => exact ⟨_, (y325), H', ⟨by have := HK1.out; have := HK2.out; have := HJ33.out; have := HJ38.out; have := HJ51.out; first | omega | exact Nat.le_refl _⟩, ⟨by (try simp only [hl8_1]); (try simp only [hl8_2]); exact qR HQ70.out⟩, ⟨by (try simp only [hl8_1]); (try simp only [hl8_2]); exact qR (Kd.R_mono (Kd.R_far (p := ⟨go66, (x10_2 : Int).toNat, none⟩) (Kd.R_mono HO_8.out (fun k_ hk => (⟨hk, fun e_ => hk.1 (by rw [e_]; rfl)⟩ : _ ∧ k_ ≠ go66))) (fun _ hk => hk.2) (.int .i64 (wrap64 ((rd x7_38 x10_2) - t324)))) (fun _ hk => ⟨hk.1.1, ⟨hk.1.2.1, ⟨hk.1.2.2.1, ⟨hk.1.2.2.2.1, hk.1.2.2.2.2⟩⟩⟩⟩))⟩, ⟨by (try simp only [hl8_1]); (try simp only [hl8_2]); exact qR (Kd.R_mono (Kd.R_far (p := ⟨go66, (x10_2 : Int).toNat, none⟩) (Kd.R_mono HO_308000.out (fun k_ hk => (⟨hk, fun e_ => hk.1 (by rw [e_]; rfl)⟩ : _ ∧ k_ ≠ go66))) (fun _ hk => hk.2) (.int .i64 (wrap64 ((rd x7_38 x10_2) - t324)))) (fun _ hk => ⟨hk.1.1, ⟨hk.1.2.1, ⟨hk.1.2.2.1, ⟨hk.1.2.2.2.1, hk.1.2.2.2.2⟩⟩⟩⟩))⟩, ⟨by (try simp only [hl8_1]); (try simp only [hl8_2]); exact qR (Kd.R_mono (Kd.R_far (p := ⟨go66, (x10_2 : Int).toNat, none⟩) (Kd.R_mono HO_308001.out (fun k_ hk => (⟨hk, fun e_ => hk.1 (by rw [e_]; rfl)⟩ : _ ∧ k_ ≠ go66))) (fun _ hk => hk.2) (.int .i64 (wrap64 ((rd x7_38 x10_2) - t324)))) (fun _ hk => ⟨hk.1.1, ⟨hk.1.2.1, ⟨hk.1.2.2.1, ⟨hk.1.2.2.2.1, hk.1.2.2.2.2⟩⟩⟩⟩))⟩, ⟨by (try simp only [hl8_1]); (try simp only [hl8_2]); exact qR (Kd.R_mono (Kd.R_far (p := ⟨go66, (x10_2 : Int).toNat, none⟩) (Kd.R_mono HO_308002.out (fun k_ hk => (⟨hk, fun e_ => hk.1 (by rw [e_]; rfl)⟩ : _ ∧ k_ ≠ go66))) (fun _ hk => hk.2) (.int .i64 (wrap64 ((rd x7_38 x10_2) - t324)))) (fun _ hk => ⟨hk.1.1, ⟨hk.1.2.1, ⟨hk.1.2.2.1, ⟨hk.1.2.2.2.1, hk.1.2.2.2.2⟩⟩⟩⟩))⟩, ⟨by (try simp only [hl8_1]); (try simp only [hl8_2]); exact qR (Kd.R_mono (Kd.R_far (p := ⟨go66, (x10_2 : Int).toNat, none⟩) (Kd.R_mono HO_308003.out (fun k_ hk => (⟨hk, fun e_ => hk.1 (by rw [e_]; rfl)⟩ : _ ∧ k_ ≠ go66))) (fun _ hk => hk.2) (.int .i64 (wrap64 ((rd x7_38 x10_2) - t324)))) (fun _ hk => ⟨hk.1.1, ⟨hk.1.2.1, ⟨hk.1.2.2.1, ⟨hk.1.2.2.2.1, hk.1.2.2.2.2⟩⟩⟩⟩))⟩, ⟨by (try simp only [hl8_1]); (try simp only [hl8_2]); (with_reducible repeat (first | refine blk_drewN ?_ _ | refine blk_drew ?_ | refine blk_alloc ?_ _)); refine blk_far ?_ (by have h_ := Kd.R_ne HO_7.out BK290.out (by decide); intro e_; exact h_ (by rw [e_]; rfl)) _; exact qB BK290.out⟩, ⟨by (try simp only [hl8_1]); (try simp only [hl8_2]); (with_reducible repeat (first | refine blk_drewN ?_ _ | refine blk_drew ?_ | refine blk_alloc ?_ _)); refine blk_far ?_ (by have h_ := Kd.R_ne HO_7.out BK307.out (by decide); intro e_; exact h_ (by rw [e_]; rfl)) _; exact qB BK307.out⟩, ⟨by repeat (first | (with_reducible first | exact HB.out | apply below_alloc | apply pw_below_drewN | apply below_drew1 | refine below_set ?_ GB66.out | refine below_set ?_ GE290.out | refine below_set ?_ GE307.out) | exact HB.out)⟩⟩
         case rest =>
          clear HC37
          try clear c1
          try clear c2
          try clear p2
          try clear c3
          try clear p3
          try clear q3
          try clear hx3
          try clear hf3
          try clear c4
          try clear p4
          try clear q4
          try clear hx4
          try clear hf4
          try clear c5
          try clear c5b0
          try clear c5b1
          try clear c6
          try clear c6b0
          try clear c6b1
          try clear p6
          try clear q6
          try clear hx6
          try clear hf6
          try clear c8
          try clear c8b0
          try clear c8b1
          try clear c9
          try clear c9b0
          try clear c9b1
          try clear c13
          try clear c17
          try clear c23
          try clear c24
          try clear c28
          try clear c28b0
          try clear c29
          try clear c29b0
          try clear c30
          try clear c30b0
          try clear p31
          try clear q31
          try clear hx31
          try clear hf31
          try clear p32
          try clear q32
          try clear hx32
          try clear c35
          try clear c35b0
          try clear c36
          try clear c38
          try clear c38b0
          try clear c40
          try clear c40b0
          try clear c41
          try clear c41b0
          try clear c41b1
          try clear c43
          try clear c43b0
          try clear c44
          try clear c44b0
          try clear c46
          try clear c46b0
          try clear c47
          try clear c47b0
          try clear p48
          try clear q48
          try clear hx48
          try clear hf48
          try clear c53
          try clear c53b0
          try clear c54
          try clear c54b0
          try clear c55
          try clear c55b0
          try clear c56
          try clear c56b0
          try clear c57
          try clear c60
          try clear c62
          try clear c63
          try clear c63b0
          try clear c64
          try clear c64b0
          try clear p64
          try clear p66
          try clear q66
          try clear hx66
          try clear hf66
          try clear hcz11_0
          try clear hcz11_1
          try clear hcz11_2
          try clear hcz11_3
          try clear hcz11_4
          try clear hcz13_0
          try clear hcz13_1
          try clear hcz13_2
          try clear hcz13_3
          try clear hcz13_4
          try clear hcz18_0
          try clear hcz18_1
          try clear hcz18_2
          try clear hcz18_3
          try clear hcz18_4
          try clear hcz22_0
          try clear hcz22_1
          try clear hcz22_2
          try clear hcz22_3
          try clear hcz22_4
          try clear hcz58_0
          try clear hcz58_1
          try clear hcz58_2
          try clear hcz58_3
          try clear hcz58_4
          try clear hcz61_0
          try clear hcz61_1
          try clear hcz61_2
          try clear hcz61_3
          try clear hcz61_4
          try clear hfz11_0
          try clear hfz11_1
          try clear hfz11_2
          try clear hfz11_3
          try clear hfz11_4
          try clear hfz13_0
          try clear hfz13_1
          try clear hfz13_2
          try clear hfz13_3
          try clear hfz13_4
          try clear hfz18_0
          try clear hfz18_1
          try clear hfz18_2
          try clear hfz18_3
          try clear hfz18_4
          try clear hfz22_0
          try clear hfz22_1
          try clear hfz22_2
          try clear hfz22_3
          try clear hfz22_4
          try clear hfz58_0
          try clear hfz58_1
          try clear hfz58_2
          try clear hfz58_3
          try clear hfz58_4
          try clear hfz61_0
          try clear hfz61_1
          try clear hfz61_2
          try clear hfz61_3
          try clear hfz61_4
          try clear hx319_0
          try clear hx31_0
          try clear hx320_0
          try clear hx322_0
          try clear hx323_0
          try clear hx48_0
          try clear hx66_0
          try clear p2
          try clear p3
          try clear p31
          try clear p319
          try clear p32
          try clear p320
          try clear p322
          try clear p323
          try clear p4
          try clear p48
          try clear p6
          try clear p66
          try clear q3
          try clear q31
          try clear q319
          try clear q32
          try clear q320
          try clear q322
          try clear q323
          try clear q4
          try clear q48
          try clear q66
          obtain ⟨kq, x7_36, HA, HJ36, HO_7, HO_8, HO_308000, HO_308001, HO_308002, HO_308003, BK290, BK307, HB⟩ := hcut
          cases kq with
          | zero => exact absurd HA.out (by simp [standbylaw56_PlannerSimulates.j5])
          | succ kj36 =>
           have H := HA.out
           clear HA
           simp only [standbylaw56_PlannerSimulates.j5] at H
           have HC71 := Aside0.mk H
           clear H
           go_upto_block 4 with (fail)
           go_cut [10] (fun v10 wc => ∃ (kq : Nat) (x8_70 : List Int) (x10_70 : Int), v10 = .int .i64 x10_70 ∧ Aside0 (standbylaw56_PlannerSimulates.j7 kq (l0_0.length : Int) ji7 x7_36 x8_70 x10_70 x11_2 x12_2 x13_2 x14_2 l0_0 l0_1 a0_2 a0_3 a0_4 t293 t296 t299 t302 t305 = some r) ∧ Aside0 (kq ≤ kj36) ∧ Aside0 (Kd.R (Kd.int .i64) 3 wc w.heap.size (fun k_ => some k_ ≠ ((.slice Ao27 x8_2.length co27) : Value).ownBlock ∧ some k_ ≠ ((.slice Ao16 t293.length co16) : Value).ownBlock ∧ some k_ ≠ ((.slice Ao19 t296.length co19) : Value).ownBlock ∧ some k_ ≠ ((.slice Ao20 t299.length co20) : Value).ownBlock ∧ some k_ ≠ ((.slice Ao21 t302.length co21) : Value).ownBlock) v311 x7_36) ∧ Aside0 (Kd.R (Kd.int .i64) 3 wc w.heap.size (fun k_ => some k_ ≠ (v311 : Value).ownBlock ∧ some k_ ≠ ((.slice Ao16 t293.length co16) : Value).ownBlock ∧ some k_ ≠ ((.slice Ao19 t296.length co19) : Value).ownBlock ∧ some k_ ≠ ((.slice Ao20 t299.length co20) : Value).ownBlock ∧ some k_ ≠ ((.slice Ao21 t302.length co21) : Value).ownBlock) (.slice Ao27 x8_2.length co27) x8_70) ∧ Aside0 (Kd.R (Kd.int .i64) 3 wc w.heap.size (fun k_ => some k_ ≠ (v311 : Value).ownBlock ∧ some k_ ≠ ((.slice Ao27 x8_2.length co27) : Value).ownBlock ∧ some k_ ≠ ((.slice Ao19 t296.length co19) : Value).ownBlock ∧ some k_ ≠ ((.slice Ao20 t299.length co20) : Value).ownBlock ∧ some k_ ≠ ((.slice Ao21 t302.length co21) : Value).ownBlock) (.slice Ao16 t293.length co16) t293) ∧ Aside0 (Kd.R (Kd.int .i64) 3 wc w.heap.size (fun k_ => some k_ ≠ (v311 : Value).ownBlock ∧ some k_ ≠ ((.slice Ao27 x8_2.length co27) : Value).ownBlock ∧ some k_ ≠ ((.slice Ao16 t293.length co16) : Value).ownBlock ∧ some k_ ≠ ((.slice Ao20 t299.length co20) : Value).ownBlock ∧ some k_ ≠ ((.slice Ao21 t302.length co21) : Value).ownBlock) (.slice Ao19 t296.length co19) t296) ∧ Aside0 (Kd.R (Kd.int .i64) 3 wc w.heap.size (fun k_ => some k_ ≠ (v311 : Value).ownBlock ∧ some k_ ≠ ((.slice Ao27 x8_2.length co27) : Value).ownBlock ∧ some k_ ≠ ((.slice Ao16 t293.length co16) : Value).ownBlock ∧ some k_ ≠ ((.slice Ao19 t296.length co19) : Value).ownBlock ∧ some k_ ≠ ((.slice Ao21 t302.length co21) : Value).ownBlock) (.slice Ao20 t299.length co20) t299) ∧ Aside0 (Kd.R (Kd.int .i64) 3 wc w.heap.size (fun k_ => some k_ ≠ (v311 : Value).ownBlock ∧ some k_ ≠ ((.slice Ao27 x8_2.length co27) : Value).ownBlock ∧ some k_ ≠ ((.slice Ao16 t293.length co16) : Value).ownBlock ∧ some k_ ≠ ((.slice Ao19 t296.length co19) : Value).ownBlock ∧ some k_ ≠ ((.slice Ao20 t299.length co20) : Value).ownBlock) (.slice Ao21 t302.length co21) t302) ∧ Aside0 (wc.heap[gb290]? = some (.cells #[(.slice A0_0 l0_0.length c0_0), (.slice A0_1 l0_1.length c0_1), .int .i64 a0_2, .int .i64 a0_3, .int .i64 a0_4] 24 (0, 0))) ∧ Aside0 (wc.heap[gb307]? = some (.cells #[(.slice Ao16 t293.length co16), (.slice Ao19 t296.length co19), (.slice Ao20 t299.length co20), (.slice Ao21 t302.length co21), .int .i64 t305] 28 (0, 0))) ∧ Aside0 (Below w.heap.size w wc))
           case first =>
            have H := HC71.out
            clear HC71
            have H' := Aside0.mk H
            clear H
            go_wp2
            go_loopg [10] kj36 (fun kq v10 w' => ∃ (x8_5 : List Int) (x10_5 : Int), v10 = .int .i64 x10_5 ∧ Aside0 (standbylaw56_PlannerSimulates.l2 kq (l0_0.length : Int) ji7 x7_36 x8_5 x10_5 x11_2 x12_2 x13_2 x14_2 l0_0 l0_1 a0_2 a0_3 a0_4 t293 t296 t299 t302 t305 = some r) ∧ Aside0 (kq ≤ kj36) ∧ Aside0 (Kd.R (Kd.int .i64) 3 w' w.heap.size (fun k_ => some k_ ≠ ((.slice Ao27 x8_2.length co27) : Value).ownBlock ∧ some k_ ≠ ((.slice Ao16 t293.length co16) : Value).ownBlock ∧ some k_ ≠ ((.slice Ao19 t296.length co19) : Value).ownBlock ∧ some k_ ≠ ((.slice Ao20 t299.length co20) : Value).ownBlock ∧ some k_ ≠ ((.slice Ao21 t302.length co21) : Value).ownBlock) v311 x7_36) ∧ Aside0 (Kd.R (Kd.int .i64) 3 w' w.heap.size (fun k_ => some k_ ≠ (v311 : Value).ownBlock ∧ some k_ ≠ ((.slice Ao16 t293.length co16) : Value).ownBlock ∧ some k_ ≠ ((.slice Ao19 t296.length co19) : Value).ownBlock ∧ some k_ ≠ ((.slice Ao20 t299.length co20) : Value).ownBlock ∧ some k_ ≠ ((.slice Ao21 t302.length co21) : Value).ownBlock) (.slice Ao27 x8_2.length co27) x8_5) ∧ Aside0 (Kd.R (Kd.int .i64) 3 w' w.heap.size (fun k_ => some k_ ≠ (v311 : Value).ownBlock ∧ some k_ ≠ ((.slice Ao27 x8_2.length co27) : Value).ownBlock ∧ some k_ ≠ ((.slice Ao19 t296.length co19) : Value).ownBlock ∧ some k_ ≠ ((.slice Ao20 t299.length co20) : Value).ownBlock ∧ some k_ ≠ ((.slice Ao21 t302.length co21) : Value).ownBlock) (.slice Ao16 t293.length co16) t293) ∧ Aside0 (Kd.R (Kd.int .i64) 3 w' w.heap.size (fun k_ => some k_ ≠ (v311 : Value).ownBlock ∧ some k_ ≠ ((.slice Ao27 x8_2.length co27) : Value).ownBlock ∧ some k_ ≠ ((.slice Ao16 t293.length co16) : Value).ownBlock ∧ some k_ ≠ ((.slice Ao20 t299.length co20) : Value).ownBlock ∧ some k_ ≠ ((.slice Ao21 t302.length co21) : Value).ownBlock) (.slice Ao19 t296.length co19) t296) ∧ Aside0 (Kd.R (Kd.int .i64) 3 w' w.heap.size (fun k_ => some k_ ≠ (v311 : Value).ownBlock ∧ some k_ ≠ ((.slice Ao27 x8_2.length co27) : Value).ownBlock ∧ some k_ ≠ ((.slice Ao16 t293.length co16) : Value).ownBlock ∧ some k_ ≠ ((.slice Ao19 t296.length co19) : Value).ownBlock ∧ some k_ ≠ ((.slice Ao21 t302.length co21) : Value).ownBlock) (.slice Ao20 t299.length co20) t299) ∧ Aside0 (Kd.R (Kd.int .i64) 3 w' w.heap.size (fun k_ => some k_ ≠ (v311 : Value).ownBlock ∧ some k_ ≠ ((.slice Ao27 x8_2.length co27) : Value).ownBlock ∧ some k_ ≠ ((.slice Ao16 t293.length co16) : Value).ownBlock ∧ some k_ ≠ ((.slice Ao19 t296.length co19) : Value).ownBlock ∧ some k_ ≠ ((.slice Ao20 t299.length co20) : Value).ownBlock) (.slice Ao21 t302.length co21) t302) ∧ Aside0 (w'.heap[gb290]? = some (.cells #[(.slice A0_0 l0_0.length c0_0), (.slice A0_1 l0_1.length c0_1), .int .i64 a0_2, .int .i64 a0_3, .int .i64 a0_4] 24 (0, 0))) ∧ Aside0 (w'.heap[gb307]? = some (.cells #[(.slice Ao16 t293.length co16), (.slice Ao19 t296.length co19), (.slice Ao20 t299.length co20), (.slice Ao21 t302.length co21), .int .i64 t305] 28 (0, 0))) ∧ Aside0 (Below w.heap.size w w'))
            case atStart => exact ⟨(x8_2), (x10_2), (by first | rfl | (simp; done) | (simp [*]; done)), H', ⟨Nat.le_refl _⟩, ⟨by (try simp only [hl8_1]); (try simp only [hl8_2]); exact qR HO_7.out⟩, ⟨by (try simp only [hl8_1]); (try simp only [hl8_2]); exact qR HO_8.out⟩, ⟨by (try simp only [hl8_1]); (try simp only [hl8_2]); exact qR HO_308000.out⟩, ⟨by (try simp only [hl8_1]); (try simp only [hl8_2]); exact qR HO_308001.out⟩, ⟨by (try simp only [hl8_1]); (try simp only [hl8_2]); exact qR HO_308002.out⟩, ⟨by (try simp only [hl8_1]); (try simp only [hl8_2]); exact qR HO_308003.out⟩, ⟨by (try simp only [hl8_1]); (try simp only [hl8_2]); exact qB BK290.out⟩, ⟨by (try simp only [hl8_1]); (try simp only [hl8_2]); exact qB BK307.out⟩, ⟨by repeat (first | (with_reducible first | exact HB.out | apply below_alloc | apply pw_below_drewN | apply below_drew1 | refine below_set ?_ GE290.out | refine below_set ?_ GE307.out) | exact HB.out)⟩⟩
            case round =>
             clear H'
             try clear c1
             try clear c2
             try clear p2
             try clear c3
             try clear p3
             try clear q3
             try clear hx3
             try clear hf3
             try clear c4
             try clear p4
             try clear q4
             try clear hx4
             try clear hf4
             try clear c5
             try clear c5b0
             try clear c5b1
             try clear c6
             try clear c6b0
             try clear c6b1
             try clear p6
             try clear q6
             try clear hx6
             try clear hf6
             try clear c8
             try clear c8b0
             try clear c8b1
             try clear c9
             try clear c9b0
             try clear c9b1
             try clear c13
             try clear c17
             try clear c23
             try clear c24
             try clear c28
             try clear c28b0
             try clear c29
             try clear c29b0
             try clear c30
             try clear c30b0
             try clear p31
             try clear q31
             try clear hx31
             try clear hf31
             try clear p32
             try clear q32
             try clear hx32
             try clear c35
             try clear c35b0
             try clear c36
             try clear c38
             try clear c38b0
             try clear c40
             try clear c40b0
             try clear c41
             try clear c41b0
             try clear c41b1
             try clear c43
             try clear c43b0
             try clear c44
             try clear c44b0
             try clear c46
             try clear c46b0
             try clear c47
             try clear c47b0
             try clear p48
             try clear q48
             try clear hx48
             try clear hf48
             try clear c53
             try clear c53b0
             try clear c54
             try clear c54b0
             try clear c55
             try clear c55b0
             try clear c56
             try clear c56b0
             try clear c57
             try clear c60
             try clear c62
             try clear c63
             try clear c63b0
             try clear c64
             try clear c64b0
             try clear p64
             try clear p66
             try clear q66
             try clear hx66
             try clear hf66
             try clear hcz11_0
             try clear hcz11_1
             try clear hcz11_2
             try clear hcz11_3
             try clear hcz11_4
             try clear hcz13_0
             try clear hcz13_1
             try clear hcz13_2
             try clear hcz13_3
             try clear hcz13_4
             try clear hcz18_0
             try clear hcz18_1
             try clear hcz18_2
             try clear hcz18_3
             try clear hcz18_4
             try clear hcz22_0
             try clear hcz22_1
             try clear hcz22_2
             try clear hcz22_3
             try clear hcz22_4
             try clear hcz58_0
             try clear hcz58_1
             try clear hcz58_2
             try clear hcz58_3
             try clear hcz58_4
             try clear hcz61_0
             try clear hcz61_1
             try clear hcz61_2
             try clear hcz61_3
             try clear hcz61_4
             try clear hfz11_0
             try clear hfz11_1
             try clear hfz11_2
             try clear hfz11_3
             try clear hfz11_4
             try clear hfz13_0
             try clear hfz13_1
             try clear hfz13_2
             try clear hfz13_3
             try clear hfz13_4
             try clear hfz18_0
             try clear hfz18_1
             try clear hfz18_2
             try clear hfz18_3
             try clear hfz18_4
             try clear hfz22_0
             try clear hfz22_1
             try clear hfz22_2
             try clear hfz22_3
             try clear hfz22_4
             try clear hfz58_0
             try clear hfz58_1
             try clear hfz58_2
             try clear hfz58_3
             try clear hfz58_4
             try clear hfz61_0
             try clear hfz61_1
             try clear hfz61_2
             try clear hfz61_3
             try clear hfz61_4
             try clear hx319_0
             try clear hx31_0
             try clear hx320_0
             try clear hx322_0
             try clear hx323_0
             try clear hx48_0
             try clear hx66_0
             try clear p2
             try clear p3
             try clear p31
             try clear p319
             try clear p32
             try clear p320
             try clear p322
             try clear p323
             try clear p4
             try clear p48
             try clear p6
             try clear p64
             try clear p66
             try clear q3
             try clear q31
             try clear q319
             try clear q32
             try clear q320
             try clear q322
             try clear q323
             try clear q4
             try clear q48
             try clear q6
             try clear q66
             obtain ⟨x8_5, x10_5, rfl, HA, HK5, HO_7, HO_8, HO_308000, HO_308001, HO_308002, HO_308003, BK290, BK307, HB⟩ := hrel
             have hl8_5 := (Kd.R_reads' HO_8.out).1
             rw [hl8_5] at HO_8
             (try simp only [hl8_5])
             (try simp only [hl8_5] at BK290)
             (try simp only [hl8_5] at BK307)
             (try simp only [hl8_5] at HO_7)
             (try simp only [hl8_5] at HO_308000)
             (try simp only [hl8_5] at HO_308001)
             (try simp only [hl8_5] at HO_308002)
             (try simp only [hl8_5] at HO_308003)
             cases gk with
             | zero => exact absurd HA.out (by simp [standbylaw56_PlannerSimulates.l2])
             | succ k5 =>
              have H := HA.out
              clear HA
              simp only [standbylaw56_PlannerSimulates.l2] at H
              by_cases c72 : x10_5 < ji7
              case neg =>
               rw [if_neg c72] at H
               have c72b0 : decide (x10_5 < ji7) = false := decide_eq_false c72
               clear c72
               (first | rw [c72b0] | (simp only [i64_w, i32_w]; rw [c72b0]) | skip)
               have H' := Aside0.mk H
               clear H
               go_wp2
               (try simp only [← hl8_5])
               go_meet
               case rel => exact ⟨_, (x8_5), (x10_5), (by first | rfl | (simp; done) | (simp [*]; done)), H', ⟨by have := HK1.out; have := HK2.out; have := HJ33.out; have := HJ36.out; have := HK5.out; first | omega | exact Nat.le_refl _⟩, ⟨by (try simp only [hl8_1]); (try simp only [hl8_2]); (try simp only [hl8_5]); exact qR HO_7.out⟩, ⟨by (try simp only [hl8_1]); (try simp only [hl8_2]); (try simp only [hl8_5]); exact qR HO_8.out⟩, ⟨by (try simp only [hl8_1]); (try simp only [hl8_2]); (try simp only [hl8_5]); exact qR HO_308000.out⟩, ⟨by (try simp only [hl8_1]); (try simp only [hl8_2]); (try simp only [hl8_5]); exact qR HO_308001.out⟩, ⟨by (try simp only [hl8_1]); (try simp only [hl8_2]); (try simp only [hl8_5]); exact qR HO_308002.out⟩, ⟨by (try simp only [hl8_1]); (try simp only [hl8_2]); (try simp only [hl8_5]); exact qR HO_308003.out⟩, ⟨by (try simp only [hl8_1]); (try simp only [hl8_2]); (try simp only [hl8_5]); exact qB BK290.out⟩, ⟨by (try simp only [hl8_1]); (try simp only [hl8_2]); (try simp only [hl8_5]); exact qB BK307.out⟩, ⟨by repeat (first | (with_reducible first | exact HB.out | apply below_alloc | apply pw_below_drewN | apply below_drew1 | refine below_set ?_ GE290.out | refine below_set ?_ GE307.out) | exact HB.out)⟩⟩
              rw [if_pos c72] at H
              have c72b0 : decide (x10_5 < ji7) = true := decide_eq_true c72
              clear c72
              (first | rw [c72b0] | (simp only [i64_w, i32_w]; rw [c72b0]) | skip)
              by_cases c73 : x14_2 ≥ (wrap64 ((wrap64 (x10_5 + 1)) * a0_2))
              case neg =>
               rw [if_neg c73] at H
               have c73b0 : decide ((wrap64 ((wrap64 (x10_5 + 1)) * a0_2)) ≤ x14_2) = false := decide_eq_false c73
               clear c73
               have H' := Aside0.mk H
               clear H
               have hnb87 := NB290_307.out
               have hnc87 := NB307_290.out
               have hcz88_0 : wr.cell? ⟨gb290, 0, none⟩ = some (.slice A0_0 l0_0.length c0_0) := (blk_cell BK290.out 0).trans rfl
               have hcz88_1 : wr.cell? ⟨gb290, 1, none⟩ = some (.slice A0_1 l0_1.length c0_1) := (blk_cell BK290.out 1).trans rfl
               have hcz88_2 : wr.cell? ⟨gb290, 2, none⟩ = some (.int .i64 a0_2) := (blk_cell BK290.out 2).trans rfl
               have hcz88_3 : wr.cell? ⟨gb290, 3, none⟩ = some (.int .i64 a0_3) := (blk_cell BK290.out 3).trans rfl
               have hcz88_4 : wr.cell? ⟨gb290, 4, none⟩ = some (.int .i64 a0_4) := (blk_cell BK290.out 4).trans rfl
               have hfz88_0 := blk_frozen BK290.out 0
               have hfz88_1 := blk_frozen BK290.out 1
               have hfz88_2 := blk_frozen BK290.out 2
               have hfz88_3 := blk_frozen BK290.out 3
               have hfz88_4 := blk_frozen BK290.out 4
               go_wp2
               (try simp only [← hl8_5])
               go_meet
               case rel => exact ⟨_, (x8_5), (x10_5), (by first | rfl | (simp; done) | (simp [*]; done)), H', ⟨by have := HK1.out; have := HK2.out; have := HJ33.out; have := HJ36.out; have := HK5.out; first | omega | exact Nat.le_refl _⟩, ⟨by (try simp only [hl8_1]); (try simp only [hl8_2]); (try simp only [hl8_5]); exact qR HO_7.out⟩, ⟨by (try simp only [hl8_1]); (try simp only [hl8_2]); (try simp only [hl8_5]); exact qR HO_8.out⟩, ⟨by (try simp only [hl8_1]); (try simp only [hl8_2]); (try simp only [hl8_5]); exact qR HO_308000.out⟩, ⟨by (try simp only [hl8_1]); (try simp only [hl8_2]); (try simp only [hl8_5]); exact qR HO_308001.out⟩, ⟨by (try simp only [hl8_1]); (try simp only [hl8_2]); (try simp only [hl8_5]); exact qR HO_308002.out⟩, ⟨by (try simp only [hl8_1]); (try simp only [hl8_2]); (try simp only [hl8_5]); exact qR HO_308003.out⟩, ⟨by (try simp only [hl8_1]); (try simp only [hl8_2]); (try simp only [hl8_5]); exact qB BK290.out⟩, ⟨by (try simp only [hl8_1]); (try simp only [hl8_2]); (try simp only [hl8_5]); exact qB BK307.out⟩, ⟨by repeat (first | (with_reducible first | exact HB.out | apply below_alloc | apply pw_below_drewN | apply below_drew1 | refine below_set ?_ GE290.out | refine below_set ?_ GE307.out) | exact HB.out)⟩⟩
              rw [if_pos c73] at H
              have c73b0 : decide ((wrap64 ((wrap64 (x10_5 + 1)) * a0_2)) ≤ x14_2) = true := decide_eq_true c73
              clear c73
              by_cases c74 : 0 ≤ x10_5
              case neg =>
               rw [if_neg c74] at H
               exact absurd H (by simp)
              rw [if_pos c74] at H
              have c74b0 : decide (0 ≤ x10_5) = true := decide_eq_true c74
              clear c74
              by_cases c75 : x10_5 < (x7_36.length : Int)
              case neg =>
               rw [if_neg c75] at H
               exact absurd H (by simp)
              rw [if_pos c75] at H
              have c75b0 : decide (x10_5 < (x7_36.length : Int)) = true := decide_eq_true c75
              clear c75
              by_cases c76 : (rd x7_36 x10_5) ≤ 0
              case neg =>
               rw [if_neg c76] at H
               have c76b0 : decide ((rd x7_36 x10_5) ≤ 0) = false := decide_eq_false c76
               clear c76
               have H' := Aside0.mk H
               clear H
               have hnb84 := NB290_307.out
               have hnc84 := NB307_290.out
               have hcz85_0 : wr.cell? ⟨gb290, 0, none⟩ = some (.slice A0_0 l0_0.length c0_0) := (blk_cell BK290.out 0).trans rfl
               have hcz85_1 : wr.cell? ⟨gb290, 1, none⟩ = some (.slice A0_1 l0_1.length c0_1) := (blk_cell BK290.out 1).trans rfl
               have hcz85_2 : wr.cell? ⟨gb290, 2, none⟩ = some (.int .i64 a0_2) := (blk_cell BK290.out 2).trans rfl
               have hcz85_3 : wr.cell? ⟨gb290, 3, none⟩ = some (.int .i64 a0_3) := (blk_cell BK290.out 3).trans rfl
               have hcz85_4 : wr.cell? ⟨gb290, 4, none⟩ = some (.int .i64 a0_4) := (blk_cell BK290.out 4).trans rfl
               have hfz85_0 := blk_frozen BK290.out 0
               have hfz85_1 := blk_frozen BK290.out 1
               have hfz85_2 := blk_frozen BK290.out 2
               have hfz85_3 := blk_frozen BK290.out 3
               have hfz85_4 := blk_frozen BK290.out 4
               obtain ⟨Ao86, co86, eo86⟩ := Kd.R_slice HO_7.out
               subst eo86
               have p326 : 0 ≤ (x10_5 : Int) := of_decide_eq_true (by first | (with_reducible assumption) | assumption)
               have q326 : x10_5 < (x7_36.length : Int) := of_decide_eq_true (by first | (with_reducible assumption) | assumption)
               obtain ⟨ad326, e326, hx326_0⟩ := Kd.at_int (Kd.R_reads' HO_7.out).2.2 x10_5 p326 q326
               cases e326
               replace p326 := eq_true p326
               replace q326 := eq_true q326
               go_wp2
               (try simp only [← hl8_5])
               go_meet
               case rel => exact ⟨_, (x8_5), (x10_5), (by first | rfl | (simp; done) | (simp [*]; done)), H', ⟨by have := HK1.out; have := HK2.out; have := HJ33.out; have := HJ36.out; have := HK5.out; first | omega | exact Nat.le_refl _⟩, ⟨by (try simp only [hl8_1]); (try simp only [hl8_2]); (try simp only [hl8_5]); exact qR HO_7.out⟩, ⟨by (try simp only [hl8_1]); (try simp only [hl8_2]); (try simp only [hl8_5]); exact qR HO_8.out⟩, ⟨by (try simp only [hl8_1]); (try simp only [hl8_2]); (try simp only [hl8_5]); exact qR HO_308000.out⟩, ⟨by (try simp only [hl8_1]); (try simp only [hl8_2]); (try simp only [hl8_5]); exact qR HO_308001.out⟩, ⟨by (try simp only [hl8_1]); (try simp only [hl8_2]); (try simp only [hl8_5]); exact qR HO_308002.out⟩, ⟨by (try simp only [hl8_1]); (try simp only [hl8_2]); (try simp only [hl8_5]); exact qR HO_308003.out⟩, ⟨by (try simp only [hl8_1]); (try simp only [hl8_2]); (try simp only [hl8_5]); exact qB BK290.out⟩, ⟨by (try simp only [hl8_1]); (try simp only [hl8_2]); (try simp only [hl8_5]); exact qB BK307.out⟩, ⟨by repeat (first | (with_reducible first | exact HB.out | apply below_alloc | apply pw_below_drewN | apply below_drew1 | refine below_set ?_ GE290.out | refine below_set ?_ GE307.out) | exact HB.out)⟩⟩
              rw [if_pos c76] at H
              have c76b0 : decide ((rd x7_36 x10_5) ≤ 0) = true := decide_eq_true c76
              clear c76
              by_cases c77 : x10_5 < (x8_5.length : Int)
              case neg =>
               rw [if_neg c77] at H
               exact absurd H (by simp)
              rw [if_pos c77] at H
              have c77b0 : decide (x10_5 < (x8_5.length : Int)) = true := decide_eq_true c77
              clear c77
              obtain ⟨y327, hy327⟩ : ∃ y_ : List Int, y_ = (x8_5.set (x10_5 : Int).toNat x14_2) := ⟨_, rfl⟩
              replace H : (standbylaw56_PlannerSimulates.l2 k5 (l0_0.length : Int) ji7 x7_36 y327 (wrap64 (x10_5 + 1)) x11_2 x12_2 x13_2 x14_2 l0_0 l0_1 a0_2 a0_3 a0_4 t293 t296 t299 t302 t305) = some r := by first | (rw [hy327]; with_reducible exact H) | (have H2_ := (Option.bind_some _ _).symm.trans H; rw [hy327]; with_reducible exact H2_) | (have H2_ := (Option.bind_some _ _).symm.trans H; with_reducible exact H2_) | with_reducible exact H | (rw [hy327]; exact H) | exact H
              have Ny327 := Aside0.mk hy327
              clear hy327
              have H' := Aside0.mk H
              clear H
              have hnb79 := NB290_307.out
              have hnc79 := NB307_290.out
              have hcz80_0 : wr.cell? ⟨gb290, 0, none⟩ = some (.slice A0_0 l0_0.length c0_0) := (blk_cell BK290.out 0).trans rfl
              have hcz80_1 : wr.cell? ⟨gb290, 1, none⟩ = some (.slice A0_1 l0_1.length c0_1) := (blk_cell BK290.out 1).trans rfl
              have hcz80_2 : wr.cell? ⟨gb290, 2, none⟩ = some (.int .i64 a0_2) := (blk_cell BK290.out 2).trans rfl
              have hcz80_3 : wr.cell? ⟨gb290, 3, none⟩ = some (.int .i64 a0_3) := (blk_cell BK290.out 3).trans rfl
              have hcz80_4 : wr.cell? ⟨gb290, 4, none⟩ = some (.int .i64 a0_4) := (blk_cell BK290.out 4).trans rfl
              have hfz80_0 := blk_frozen BK290.out 0
              have hfz80_1 := blk_frozen BK290.out 1
              have hfz80_2 := blk_frozen BK290.out 2
              have hfz80_3 := blk_frozen BK290.out 3
              have hfz80_4 := blk_frozen BK290.out 4
              obtain ⟨Ao81, co81, eo81⟩ := Kd.R_slice HO_7.out
              subst eo81
              have p326 : 0 ≤ (x10_5 : Int) := of_decide_eq_true (by first | (with_reducible assumption) | assumption)
              have q326 : x10_5 < (x7_36.length : Int) := of_decide_eq_true (by first | (with_reducible assumption) | assumption)
              obtain ⟨ad326, e326, hx326_0⟩ := Kd.at_int (Kd.R_reads' HO_7.out).2.2 x10_5 p326 q326
              cases e326
              replace p326 := eq_true p326
              replace q326 := eq_true q326
              have p78 : 0 ≤ (x10_5 : Int) := of_decide_eq_true (by first | (with_reducible assumption) | assumption)
              have q78 : (x10_5 : Int) < ((x8_5.length : Int) : Int) := of_decide_eq_true (by first | (with_reducible assumption) | assumption)
              obtain ⟨go78, co78, eo78, gb78, gl78, cl78, HG78⟩ := Kd.R_form HO_8.out (by omega)
              (first | cases eo78 | (injection eo78 with ea_ en_ ec_; (first | subst ea_ | (injection ea_ with ea_; subst ea_)); subst ec_; clear en_))
              have GB78 := Aside0.mk gb78
              have GG78 := Aside0.mk HG78
              clear gb78 gl78 HG78
              obtain ⟨hx78_0, hf78_0⟩ := Kd.R_celln 0 HO_8.out (x10_5 : Int) p78 q78
              replace p78 := eq_true p78
              replace q78 := eq_true q78
              have HP82 := Kd.R_putg HO_8.out (x10_5 : Int) x14_2
              go_wp2_with (first | ((with_reducible refine gate_store (t := 3) (p := 149) rfl ?_); refine store_event (t := 3) (p := 149) (v := ?vo_w83) (w1 := (wr.setCell ⟨go78, (x10_5 : Int).toNat, none⟩ (.int .i64 x14_2))) ?hg ?ho ?hn ?hr ?_; (case ho => rfl); (case hg => rfl); (case hn => rfl); (case hr => first | (go_simp; done) | (go_simp; rfl)); intro w83 hw; have hg : wr.grownBy w83 (some go78) := (by rw [hw]; exact HP82.2); have hp_ : Kd.R (Kd.int .i64) 3 w83 w.heap.size (fun k_ => some k_ ≠ (.slice (some ad326) x7_36.length co81 : Value).ownBlock ∧ some k_ ≠ (.slice Ao16 t293.length co16 : Value).ownBlock ∧ some k_ ≠ (.slice Ao19 t296.length co19 : Value).ownBlock ∧ some k_ ≠ (.slice Ao20 t299.length co20 : Value).ownBlock ∧ some k_ ≠ (.slice Ao21 t302.length co21 : Value).ownBlock) (.slice (some ⟨go78, 0, none⟩) x8_5.length co27) y327 := (by rw [hw, Ny327.out]; exact HP82.1); clear HP82; have n0_ := Aside0.mk (Kd.R_after (v := (.slice (some ⟨go78, 0, none⟩) x8_5.length co27)) (v1 := (.slice (some ⟨go78, 0, none⟩) x8_5.length co27)) (ok := (fun k_ => some k_ ≠ (.slice Ao16 t293.length co16 : Value).ownBlock ∧ some k_ ≠ (.slice Ao19 t296.length co19 : Value).ownBlock ∧ some k_ ≠ (.slice Ao20 t299.length co20 : Value).ownBlock ∧ some k_ ≠ (.slice Ao21 t302.length co21 : Value).ownBlock)) (qR (Kd.R_mono HO_7.out (fun _ hk => ⟨⟨hk.2.1, ⟨hk.2.2.1, ⟨hk.2.2.2.1, hk.2.2.2.2⟩⟩⟩, hk.1⟩))) hg (.inl rfl)); have n1_ := Aside0.mk (hp_); have n2_ := Aside0.mk (Kd.R_after (v := (.slice (some ⟨go78, 0, none⟩) x8_5.length co27)) (v1 := (.slice (some ⟨go78, 0, none⟩) x8_5.length co27)) (ok := (fun k_ => some k_ ≠ (.slice (some ad326) x7_36.length co81 : Value).ownBlock ∧ some k_ ≠ (.slice Ao19 t296.length co19 : Value).ownBlock ∧ some k_ ≠ (.slice Ao20 t299.length co20 : Value).ownBlock ∧ some k_ ≠ (.slice Ao21 t302.length co21 : Value).ownBlock)) (qR (Kd.R_mono HO_308000.out (fun _ hk => ⟨⟨hk.1, ⟨hk.2.2.1, ⟨hk.2.2.2.1, hk.2.2.2.2⟩⟩⟩, hk.2.1⟩))) hg (.inl rfl)); have n3_ := Aside0.mk (Kd.R_after (v := (.slice (some ⟨go78, 0, none⟩) x8_5.length co27)) (v1 := (.slice (some ⟨go78, 0, none⟩) x8_5.length co27)) (ok := (fun k_ => some k_ ≠ (.slice (some ad326) x7_36.length co81 : Value).ownBlock ∧ some k_ ≠ (.slice Ao16 t293.length co16 : Value).ownBlock ∧ some k_ ≠ (.slice Ao20 t299.length co20 : Value).ownBlock ∧ some k_ ≠ (.slice Ao21 t302.length co21 : Value).ownBlock)) (qR (Kd.R_mono HO_308001.out (fun _ hk => ⟨⟨hk.1, ⟨hk.2.2.1, ⟨hk.2.2.2.1, hk.2.2.2.2⟩⟩⟩, hk.2.1⟩))) hg (.inl rfl)); have n4_ := Aside0.mk (Kd.R_after (v := (.slice (some ⟨go78, 0, none⟩) x8_5.length co27)) (v1 := (.slice (some ⟨go78, 0, none⟩) x8_5.length co27)) (ok := (fun k_ => some k_ ≠ (.slice (some ad326) x7_36.length co81 : Value).ownBlock ∧ some k_ ≠ (.slice Ao16 t293.length co16 : Value).ownBlock ∧ some k_ ≠ (.slice Ao19 t296.length co19 : Value).ownBlock ∧ some k_ ≠ (.slice Ao21 t302.length co21 : Value).ownBlock)) (qR (Kd.R_mono HO_308002.out (fun _ hk => ⟨⟨hk.1, ⟨hk.2.2.1, ⟨hk.2.2.2.1, hk.2.2.2.2⟩⟩⟩, hk.2.1⟩))) hg (.inl rfl)); have n5_ := Aside0.mk (Kd.R_after (v := (.slice (some ⟨go78, 0, none⟩) x8_5.length co27)) (v1 := (.slice (some ⟨go78, 0, none⟩) x8_5.length co27)) (ok := (fun k_ => some k_ ≠ (.slice (some ad326) x7_36.length co81 : Value).ownBlock ∧ some k_ ≠ (.slice Ao16 t293.length co16 : Value).ownBlock ∧ some k_ ≠ (.slice Ao19 t296.length co19 : Value).ownBlock ∧ some k_ ≠ (.slice Ao20 t299.length co20 : Value).ownBlock)) (qR (Kd.R_mono HO_308003.out (fun _ hk => ⟨⟨hk.1, ⟨hk.2.2.1, ⟨hk.2.2.2.1, hk.2.2.2.2⟩⟩⟩, hk.2.1⟩))) hg (.inl rfl)); have n6_ := Aside0.mk (blk_grown (qB BK290.out) hg (Kd.R_ne HO_8.out BK290.out (by decide))); have n7_ := Aside0.mk (blk_grown (qB BK307.out) hg (Kd.R_ne HO_8.out BK307.out (by decide))); have n8_ := Aside0.mk ((by rw [hw]; exact below_set (HB.out) GB78.out : Below w.heap.size w w83)); clear HO_7 HO_8 HO_308000 HO_308001 HO_308002 HO_308003 BK290 BK307 HB; have HO_7 := n0_; have HO_8 := n1_; have HO_308000 := n2_; have HO_308001 := n3_; have HO_308002 := n4_; have HO_308003 := n5_; have BK290 := n6_; have BK307 := n7_; have HB := n8_; clear n0_ n1_ n2_ n3_ n4_ n5_ n6_ n7_ n8_ hg hw hp_))
              (try simp only [← hl8_5])
              go_roundg k5
              case measure => have := HK1.out; have := HK2.out; have := HJ33.out; have := HJ36.out; have := HK5.out; omega
              case rel => exact ⟨(y327), (wrap64 (x10_5 + 1)), (by first | rfl | (simp; done) | (simp [*]; done)), H', ⟨by have := HK1.out; have := HK2.out; have := HJ33.out; have := HJ36.out; have := HK5.out; omega⟩, ⟨by (try simp only [hl8_1]); (try simp only [hl8_2]); (try simp only [hl8_5]); exact qR (Kd.R_mono HO_7.out (fun _ hk => ⟨hk.2, ⟨hk.1.1, ⟨hk.1.2.1, ⟨hk.1.2.2.1, hk.1.2.2.2⟩⟩⟩⟩))⟩, ⟨by (try simp only [hl8_1]); (try simp only [hl8_2]); (try simp only [hl8_5]); exact qR HO_8.out⟩, ⟨by (try simp only [hl8_1]); (try simp only [hl8_2]); (try simp only [hl8_5]); exact qR (Kd.R_mono HO_308000.out (fun _ hk => ⟨hk.1.1, ⟨hk.2, ⟨hk.1.2.1, ⟨hk.1.2.2.1, hk.1.2.2.2⟩⟩⟩⟩))⟩, ⟨by (try simp only [hl8_1]); (try simp only [hl8_2]); (try simp only [hl8_5]); exact qR (Kd.R_mono HO_308001.out (fun _ hk => ⟨hk.1.1, ⟨hk.2, ⟨hk.1.2.1, ⟨hk.1.2.2.1, hk.1.2.2.2⟩⟩⟩⟩))⟩, ⟨by (try simp only [hl8_1]); (try simp only [hl8_2]); (try simp only [hl8_5]); exact qR (Kd.R_mono HO_308002.out (fun _ hk => ⟨hk.1.1, ⟨hk.2, ⟨hk.1.2.1, ⟨hk.1.2.2.1, hk.1.2.2.2⟩⟩⟩⟩))⟩, ⟨by (try simp only [hl8_1]); (try simp only [hl8_2]); (try simp only [hl8_5]); exact qR (Kd.R_mono HO_308003.out (fun _ hk => ⟨hk.1.1, ⟨hk.2, ⟨hk.1.2.1, ⟨hk.1.2.2.1, hk.1.2.2.2⟩⟩⟩⟩))⟩, ⟨by (try simp only [hl8_1]); (try simp only [hl8_2]); (try simp only [hl8_5]); exact qB BK290.out⟩, ⟨by (try simp only [hl8_1]); (try simp only [hl8_2]); (try simp only [hl8_5]); exact qB BK307.out⟩, ⟨by repeat (first | (with_reducible first | exact HB.out | apply below_alloc | apply pw_below_drewN | apply below_drew1 | refine below_set ?_ GE290.out | refine below_set ?_ GE307.out) | exact HB.out)⟩⟩
           case rest =>
            clear HC71
            try clear c1
            try clear c2
            try clear p2
            try clear c3
            try clear p3
            try clear q3
            try clear hx3
            try clear hf3
            try clear c4
            try clear p4
            try clear q4
            try clear hx4
            try clear hf4
            try clear c5
            try clear c5b0
            try clear c5b1
            try clear c6
            try clear c6b0
            try clear c6b1
            try clear p6
            try clear q6
            try clear hx6
            try clear hf6
            try clear c7
            try clear p7
            try clear q7
            try clear hx7
            try clear hf7
            try clear c8
            try clear c8b0
            try clear c8b1
            try clear c9
            try clear c9b0
            try clear c9b1
            try clear c13
            try clear c17
            try clear c23
            try clear c24
            try clear c28
            try clear c28b0
            try clear c29
            try clear c29b0
            try clear c30
            try clear c30b0
            try clear p31
            try clear q31
            try clear hx31
            try clear hf31
            try clear p32
            try clear q32
            try clear hx32
            try clear c35
            try clear c35b0
            try clear c36
            try clear c38
            try clear c38b0
            try clear c40
            try clear c40b0
            try clear c41
            try clear c41b0
            try clear c41b1
            try clear c43
            try clear c43b0
            try clear c44
            try clear c44b0
            try clear c46
            try clear c46b0
            try clear c47
            try clear c47b0
            try clear p48
            try clear q48
            try clear hx48
            try clear hf48
            try clear c53
            try clear c53b0
            try clear c54
            try clear c54b0
            try clear c55
            try clear c55b0
            try clear c56
            try clear c56b0
            try clear c57
            try clear c60
            try clear c62
            try clear c63
            try clear c63b0
            try clear c64
            try clear c64b0
            try clear p64
            try clear p66
            try clear q66
            try clear hx66
            try clear hf66
            try clear c72
            try clear c72b0
            try clear c73
            try clear c73b0
            try clear c74
            try clear c74b0
            try clear c75
            try clear c75b0
            try clear c76
            try clear c76b0
            try clear c77
            try clear c77b0
            try clear p78
            try clear q78
            try clear hx78
            try clear hf78
            try clear c79
            try clear c84
            try clear c87
            try clear hcz11_0
            try clear hcz11_1
            try clear hcz11_2
            try clear hcz11_3
            try clear hcz11_4
            try clear hcz13_0
            try clear hcz13_1
            try clear hcz13_2
            try clear hcz13_3
            try clear hcz13_4
            try clear hcz18_0
            try clear hcz18_1
            try clear hcz18_2
            try clear hcz18_3
            try clear hcz18_4
            try clear hcz22_0
            try clear hcz22_1
            try clear hcz22_2
            try clear hcz22_3
            try clear hcz22_4
            try clear hcz58_0
            try clear hcz58_1
            try clear hcz58_2
            try clear hcz58_3
            try clear hcz58_4
            try clear hcz61_0
            try clear hcz61_1
            try clear hcz61_2
            try clear hcz61_3
            try clear hcz61_4
            try clear hcz80_0
            try clear hcz80_1
            try clear hcz80_2
            try clear hcz80_3
            try clear hcz80_4
            try clear hcz85_0
            try clear hcz85_1
            try clear hcz85_2
            try clear hcz85_3
            try clear hcz85_4
            try clear hcz88_0
            try clear hcz88_1
            try clear hcz88_2
            try clear hcz88_3
            try clear hcz88_4
            try clear hfz11_0
            try clear hfz11_1
            try clear hfz11_2
            try clear hfz11_3
            try clear hfz11_4
            try clear hfz13_0
            try clear hfz13_1
            try clear hfz13_2
            try clear hfz13_3
            try clear hfz13_4
            try clear hfz18_0
            try clear hfz18_1
            try clear hfz18_2
            try clear hfz18_3
            try clear hfz18_4
            try clear hfz22_0
            try clear hfz22_1
            try clear hfz22_2
            try clear hfz22_3
            try clear hfz22_4
            try clear hfz58_0
            try clear hfz58_1
            try clear hfz58_2
            try clear hfz58_3
            try clear hfz58_4
            try clear hfz61_0
            try clear hfz61_1
            try clear hfz61_2
            try clear hfz61_3
            try clear hfz61_4
            try clear hfz80_0
            try clear hfz80_1
            try clear hfz80_2
            try clear hfz80_3
            try clear hfz80_4
            try clear hfz85_0
            try clear hfz85_1
            try clear hfz85_2
            try clear hfz85_3
            try clear hfz85_4
            try clear hfz88_0
            try clear hfz88_1
            try clear hfz88_2
            try clear hfz88_3
            try clear hfz88_4
            try clear hx319_0
            try clear hx31_0
            try clear hx320_0
            try clear hx322_0
            try clear hx323_0
            try clear hx326_0
            try clear hx48_0
            try clear hx66_0
            try clear hx78_0
            try clear p2
            try clear p3
            try clear p31
            try clear p319
            try clear p32
            try clear p320
            try clear p322
            try clear p323
            try clear p326
            try clear p4
            try clear p48
            try clear p6
            try clear p64
            try clear p66
            try clear p78
            try clear q3
            try clear q31
            try clear q319
            try clear q32
            try clear q320
            try clear q322
            try clear q323
            try clear q326
            try clear q4
            try clear q48
            try clear q6
            try clear q66
            try clear q78
            obtain ⟨kq, x8_70, x10_70, rfl, HA, HJ70, HO_7, HO_8, HO_308000, HO_308001, HO_308002, HO_308003, BK290, BK307, HB⟩ := hcut
            have hl8_70 := (Kd.R_reads' HO_8.out).1
            rw [hl8_70] at HO_8
            (try simp only [hl8_70])
            (try simp only [hl8_70] at BK290)
            (try simp only [hl8_70] at BK307)
            (try simp only [hl8_70] at HO_7)
            (try simp only [hl8_70] at HO_308000)
            (try simp only [hl8_70] at HO_308001)
            (try simp only [hl8_70] at HO_308002)
            (try simp only [hl8_70] at HO_308003)
            cases kq with
            | zero => exact absurd HA.out (by simp [standbylaw56_PlannerSimulates.j7])
            | succ kj70 =>
             have H := HA.out
             clear HA
             simp only [standbylaw56_PlannerSimulates.j7] at H
             have H' := Aside0.mk H
             clear H
             go_wp2
             go_loopg [12, 13, 153] kj70 (fun kq v12 v13 v153 w' => ∃ (x12_6 : Int) (x13_6 : Int) (x153_6 : Int), v12 = .int .i64 x12_6 ∧ v13 = .int .i64 x13_6 ∧ v153 = .int .i64 x153_6 ∧ Aside0 (standbylaw56_PlannerSimulates.l3 kq (l0_0.length : Int) ji7 x7_36 x8_70 x10_70 x11_2 x12_6 x13_6 x14_2 ji7 x153_6 l0_0 l0_1 a0_2 a0_3 a0_4 t293 t296 t299 t302 t305 = some r) ∧ Aside0 (kq ≤ kj70) ∧ Aside0 (Kd.R (Kd.int .i64) 3 w' w.heap.size (fun k_ => some k_ ≠ ((.slice Ao27 x8_70.length co27) : Value).ownBlock ∧ some k_ ≠ ((.slice Ao16 t293.length co16) : Value).ownBlock ∧ some k_ ≠ ((.slice Ao19 t296.length co19) : Value).ownBlock ∧ some k_ ≠ ((.slice Ao20 t299.length co20) : Value).ownBlock ∧ some k_ ≠ ((.slice Ao21 t302.length co21) : Value).ownBlock) v311 x7_36) ∧ Aside0 (Kd.R (Kd.int .i64) 3 w' w.heap.size (fun k_ => some k_ ≠ (v311 : Value).ownBlock ∧ some k_ ≠ ((.slice Ao16 t293.length co16) : Value).ownBlock ∧ some k_ ≠ ((.slice Ao19 t296.length co19) : Value).ownBlock ∧ some k_ ≠ ((.slice Ao20 t299.length co20) : Value).ownBlock ∧ some k_ ≠ ((.slice Ao21 t302.length co21) : Value).ownBlock) (.slice Ao27 x8_70.length co27) x8_70) ∧ Aside0 (Kd.R (Kd.int .i64) 3 w' w.heap.size (fun k_ => some k_ ≠ (v311 : Value).ownBlock ∧ some k_ ≠ ((.slice Ao27 x8_70.length co27) : Value).ownBlock ∧ some k_ ≠ ((.slice Ao19 t296.length co19) : Value).ownBlock ∧ some k_ ≠ ((.slice Ao20 t299.length co20) : Value).ownBlock ∧ some k_ ≠ ((.slice Ao21 t302.length co21) : Value).ownBlock) (.slice Ao16 t293.length co16) t293) ∧ Aside0 (Kd.R (Kd.int .i64) 3 w' w.heap.size (fun k_ => some k_ ≠ (v311 : Value).ownBlock ∧ some k_ ≠ ((.slice Ao27 x8_70.length co27) : Value).ownBlock ∧ some k_ ≠ ((.slice Ao16 t293.length co16) : Value).ownBlock ∧ some k_ ≠ ((.slice Ao20 t299.length co20) : Value).ownBlock ∧ some k_ ≠ ((.slice Ao21 t302.length co21) : Value).ownBlock) (.slice Ao19 t296.length co19) t296) ∧ Aside0 (Kd.R (Kd.int .i64) 3 w' w.heap.size (fun k_ => some k_ ≠ (v311 : Value).ownBlock ∧ some k_ ≠ ((.slice Ao27 x8_70.length co27) : Value).ownBlock ∧ some k_ ≠ ((.slice Ao16 t293.length co16) : Value).ownBlock ∧ some k_ ≠ ((.slice Ao19 t296.length co19) : Value).ownBlock ∧ some k_ ≠ ((.slice Ao21 t302.length co21) : Value).ownBlock) (.slice Ao20 t299.length co20) t299) ∧ Aside0 (Kd.R (Kd.int .i64) 3 w' w.heap.size (fun k_ => some k_ ≠ (v311 : Value).ownBlock ∧ some k_ ≠ ((.slice Ao27 x8_70.length co27) : Value).ownBlock ∧ some k_ ≠ ((.slice Ao16 t293.length co16) : Value).ownBlock ∧ some k_ ≠ ((.slice Ao19 t296.length co19) : Value).ownBlock ∧ some k_ ≠ ((.slice Ao20 t299.length co20) : Value).ownBlock) (.slice Ao21 t302.length co21) t302) ∧ Aside0 (w'.heap[gb290]? = some (.cells #[(.slice A0_0 l0_0.length c0_0), (.slice A0_1 l0_1.length c0_1), .int .i64 a0_2, .int .i64 a0_3, .int .i64 a0_4] 24 (0, 0))) ∧ Aside0 (w'.heap[gb307]? = some (.cells #[(.slice Ao16 t293.length co16), (.slice Ao19 t296.length co19), (.slice Ao20 t299.length co20), (.slice Ao21 t302.length co21), .int .i64 t305] 28 (0, 0))) ∧ Aside0 (Below w.heap.size w w'))
             case atStart => exact ⟨(x12_2), (x13_2), (0), (by first | rfl | (simp; done) | (simp [*]; done)), (by first | rfl | (simp; done) | (simp [*]; done)), (by first | rfl | (simp; done) | (simp [*]; done)), H', ⟨Nat.le_refl _⟩, ⟨by (try simp only [hl8_1]); (try simp only [hl8_2]); (try simp only [hl8_70]); exact qR HO_7.out⟩, ⟨by (try simp only [hl8_1]); (try simp only [hl8_2]); (try simp only [hl8_70]); exact qR HO_8.out⟩, ⟨by (try simp only [hl8_1]); (try simp only [hl8_2]); (try simp only [hl8_70]); exact qR HO_308000.out⟩, ⟨by (try simp only [hl8_1]); (try simp only [hl8_2]); (try simp only [hl8_70]); exact qR HO_308001.out⟩, ⟨by (try simp only [hl8_1]); (try simp only [hl8_2]); (try simp only [hl8_70]); exact qR HO_308002.out⟩, ⟨by (try simp only [hl8_1]); (try simp only [hl8_2]); (try simp only [hl8_70]); exact qR HO_308003.out⟩, ⟨by (try simp only [hl8_1]); (try simp only [hl8_2]); (try simp only [hl8_70]); exact qB BK290.out⟩, ⟨by (try simp only [hl8_1]); (try simp only [hl8_2]); (try simp only [hl8_70]); exact qB BK307.out⟩, ⟨by repeat (first | (with_reducible first | exact HB.out | apply below_alloc | apply pw_below_drewN | apply below_drew1 | refine below_set ?_ GE290.out | refine below_set ?_ GE307.out) | exact HB.out)⟩⟩
             case round =>
              clear H'
              try clear c1
              try clear c2
              try clear p2
              try clear c3
              try clear p3
              try clear q3
              try clear hx3
              try clear hf3
              try clear c4
              try clear p4
              try clear q4
              try clear hx4
              try clear hf4
              try clear c5
              try clear c5b0
              try clear c5b1
              try clear c6
              try clear c6b0
              try clear c6b1
              try clear p6
              try clear q6
              try clear hx6
              try clear hf6
              try clear c7
              try clear p7
              try clear q7
              try clear hx7
              try clear hf7
              try clear c8
              try clear c8b0
              try clear c8b1
              try clear c9
              try clear c9b0
              try clear c9b1
              try clear c13
              try clear c17
              try clear c23
              try clear c24
              try clear c28
              try clear c28b0
              try clear c29
              try clear c29b0
              try clear c30
              try clear c30b0
              try clear p31
              try clear q31
              try clear hx31
              try clear hf31
              try clear p32
              try clear q32
              try clear hx32
              try clear c35
              try clear c35b0
              try clear c36
              try clear c38
              try clear c38b0
              try clear c40
              try clear c40b0
              try clear c41
              try clear c41b0
              try clear c41b1
              try clear c43
              try clear c43b0
              try clear c44
              try clear c44b0
              try clear c46
              try clear c46b0
              try clear c47
              try clear c47b0
              try clear p48
              try clear q48
              try clear hx48
              try clear hf48
              try clear c53
              try clear c53b0
              try clear c54
              try clear c54b0
              try clear c55
              try clear c55b0
              try clear c56
              try clear c56b0
              try clear c57
              try clear c60
              try clear c62
              try clear c63
              try clear c63b0
              try clear c64
              try clear c64b0
              try clear p64
              try clear p66
              try clear q66
              try clear hx66
              try clear hf66
              try clear c72
              try clear c72b0
              try clear c73
              try clear c73b0
              try clear c74
              try clear c74b0
              try clear c75
              try clear c75b0
              try clear c76
              try clear c76b0
              try clear c77
              try clear c77b0
              try clear p78
              try clear q78
              try clear hx78
              try clear hf78
              try clear c79
              try clear c84
              try clear c87
              try clear hcz11_0
              try clear hcz11_1
              try clear hcz11_2
              try clear hcz11_3
              try clear hcz11_4
              try clear hcz13_0
              try clear hcz13_1
              try clear hcz13_2
              try clear hcz13_3
              try clear hcz13_4
              try clear hcz18_0
              try clear hcz18_1
              try clear hcz18_2
              try clear hcz18_3
              try clear hcz18_4
              try clear hcz22_0
              try clear hcz22_1
              try clear hcz22_2
              try clear hcz22_3
              try clear hcz22_4
              try clear hcz58_0
              try clear hcz58_1
              try clear hcz58_2
              try clear hcz58_3
              try clear hcz58_4
              try clear hcz61_0
              try clear hcz61_1
              try clear hcz61_2
              try clear hcz61_3
              try clear hcz61_4
              try clear hcz80_0
              try clear hcz80_1
              try clear hcz80_2
              try clear hcz80_3
              try clear hcz80_4
              try clear hcz85_0
              try clear hcz85_1
              try clear hcz85_2
              try clear hcz85_3
              try clear hcz85_4
              try clear hcz88_0
              try clear hcz88_1
              try clear hcz88_2
              try clear hcz88_3
              try clear hcz88_4
              try clear hfz11_0
              try clear hfz11_1
              try clear hfz11_2
              try clear hfz11_3
              try clear hfz11_4
              try clear hfz13_0
              try clear hfz13_1
              try clear hfz13_2
              try clear hfz13_3
              try clear hfz13_4
              try clear hfz18_0
              try clear hfz18_1
              try clear hfz18_2
              try clear hfz18_3
              try clear hfz18_4
              try clear hfz22_0
              try clear hfz22_1
              try clear hfz22_2
              try clear hfz22_3
              try clear hfz22_4
              try clear hfz58_0
              try clear hfz58_1
              try clear hfz58_2
              try clear hfz58_3
              try clear hfz58_4
              try clear hfz61_0
              try clear hfz61_1
              try clear hfz61_2
              try clear hfz61_3
              try clear hfz61_4
              try clear hfz80_0
              try clear hfz80_1
              try clear hfz80_2
              try clear hfz80_3
              try clear hfz80_4
              try clear hfz85_0
              try clear hfz85_1
              try clear hfz85_2
              try clear hfz85_3
              try clear hfz85_4
              try clear hfz88_0
              try clear hfz88_1
              try clear hfz88_2
              try clear hfz88_3
              try clear hfz88_4
              try clear hx319_0
              try clear hx31_0
              try clear hx320_0
              try clear hx322_0
              try clear hx323_0
              try clear hx326_0
              try clear hx48_0
              try clear hx66_0
              try clear hx78_0
              try clear p2
              try clear p3
              try clear p31
              try clear p319
              try clear p32
              try clear p320
              try clear p322
              try clear p323
              try clear p326
              try clear p4
              try clear p48
              try clear p6
              try clear p64
              try clear p66
              try clear p7
              try clear p78
              try clear q3
              try clear q31
              try clear q319
              try clear q32
              try clear q320
              try clear q322
              try clear q323
              try clear q326
              try clear q4
              try clear q48
              try clear q6
              try clear q66
              try clear q7
              try clear q78
              obtain ⟨x12_6, x13_6, x153_6, rfl, rfl, rfl, HA, HK6, HO_7, HO_8, HO_308000, HO_308001, HO_308002, HO_308003, BK290, BK307, HB⟩ := hrel
              cases gk with
              | zero => exact absurd HA.out (by simp [standbylaw56_PlannerSimulates.l3])
              | succ k6 =>
               have H := HA.out
               clear HA
               simp only [standbylaw56_PlannerSimulates.l3] at H
               by_cases c89 : x153_6 < ji7
               case neg =>
                rw [if_neg c89] at H
                have c89b0 : decide (x153_6 < ji7) = false := decide_eq_false c89
                clear c89
                obtain ⟨ji99, hji99⟩ : ∃ j_ : Int, (mx x11_2 (wrap64 (x14_2 - x12_6))) = j_ := ⟨_, rfl⟩
                replace H : (standbylaw56_PlannerSimulates.l1 k6 (l0_0.length : Int) ji7 x7_36 x8_70 x10_70 ji99 x12_6 x13_6 (wrap64 (x14_2 + 1)) l0_0 l0_1 a0_2 a0_3 a0_4 t293 t296 t299 t302 t305) = some r := by first | (rw [hji99] at H; exact H) | (simp only [hji99] at H ⊢; exact H)
                have hji99_ : (if x11_2 < (wrap64 (x14_2 - x12_6)) then (wrap64 (x14_2 - x12_6)) else x11_2) = ji99 := hji99
                have H' := Aside0.mk H
                clear H
                go_wp2
                (try simp only [← hl8_2, ← hl8_70])
                go_roundg k6
                case measure => have := HK1.out; have := HK2.out; have := HJ33.out; have := HJ36.out; have := HJ70.out; have := HK6.out; omega
                case rel => exact ⟨(x7_36), (x8_70), (x10_70), (ji99), (x12_6), (x13_6), (wrap64 (x14_2 + 1)), (by first | rfl | (simp; done) | (simp [*]; done)), (by first | rfl | (simp; done) | (simp only [← hji99] <;> (first | rfl | simp)) | (simp [*]; done)), (by first | rfl | (simp; done) | (simp [*]; done)), (by first | rfl | (simp; done) | (simp [*]; done)), (by first | rfl | (simp; done) | (simp [*]; done)), H', ⟨by have := HK1.out; have := HK2.out; have := HJ33.out; have := HJ36.out; have := HJ70.out; have := HK6.out; omega⟩, ⟨by (try simp only [hl8_1]); (try simp only [hl8_2]); (try simp only [hl8_70]); exact qR HO_7.out⟩, ⟨by (try simp only [hl8_1]); (try simp only [hl8_2]); (try simp only [hl8_70]); exact qR HO_8.out⟩, ⟨by (try simp only [hl8_1]); (try simp only [hl8_2]); (try simp only [hl8_70]); exact qR HO_308000.out⟩, ⟨by (try simp only [hl8_1]); (try simp only [hl8_2]); (try simp only [hl8_70]); exact qR HO_308001.out⟩, ⟨by (try simp only [hl8_1]); (try simp only [hl8_2]); (try simp only [hl8_70]); exact qR HO_308002.out⟩, ⟨by (try simp only [hl8_1]); (try simp only [hl8_2]); (try simp only [hl8_70]); exact qR HO_308003.out⟩, ⟨by (try simp only [hl8_1]); (try simp only [hl8_2]); (try simp only [hl8_70]); exact qB BK290.out⟩, ⟨by (try simp only [hl8_1]); (try simp only [hl8_2]); (try simp only [hl8_70]); exact qB BK307.out⟩, ⟨by repeat (first | (with_reducible first | exact HB.out | apply below_alloc | apply pw_below_drewN | apply below_drew1 | refine below_set ?_ GE290.out | refine below_set ?_ GE307.out) | exact HB.out)⟩⟩
               rw [if_pos c89] at H
               have c89b0 : decide (x153_6 < ji7) = true := decide_eq_true c89
               clear c89
               by_cases c90 : 0 ≤ x153_6
               case neg =>
                rw [if_neg c90] at H
                exact absurd H (by simp)
               rw [if_pos c90] at H
               have c90b0 : decide (0 ≤ x153_6) = true := decide_eq_true c90
               clear c90
               by_cases c91 : x153_6 < (x8_70.length : Int)
               case neg =>
                rw [if_neg c91] at H
                exact absurd H (by simp)
               rw [if_pos c91] at H
               have c91b0 : decide (x153_6 < (x8_70.length : Int)) = true := decide_eq_true c91
               clear c91
               by_cases c92 : (rd x8_70 x153_6) ≥ 0
               case neg =>
                rw [if_neg c92] at H
                have c92b0 : decide (0 ≤ (rd x8_70 x153_6)) = false := decide_eq_false c92
                clear c92
                have H' := Aside0.mk H
                clear H
                try go_wp2
                have n0_ := Aside0.mk (Kd.R_drew HO_7.out)
                have n1_ := Aside0.mk (Kd.R_drew HO_8.out)
                have n2_ := Aside0.mk (Kd.R_drew HO_308000.out)
                have n3_ := Aside0.mk (Kd.R_drew HO_308001.out)
                have n4_ := Aside0.mk (Kd.R_drew HO_308002.out)
                have n5_ := Aside0.mk (Kd.R_drew HO_308003.out)
                have n6_ := Aside0.mk (blk_drew BK290.out)
                have n7_ := Aside0.mk (blk_drew BK307.out)
                have n8_ := Aside0.mk (below_drew1 HB.out)
                clear HO_7 HO_8 HO_308000 HO_308001 HO_308002 HO_308003 BK290 BK307 HB
                have HO_7 := n0_
                have HO_8 := n1_
                have HO_308000 := n2_
                have HO_308001 := n3_
                have HO_308002 := n4_
                have HO_308003 := n5_
                have BK290 := n6_
                have BK307 := n7_
                have HB := n8_
                clear n0_ n1_ n2_ n3_ n4_ n5_ n6_ n7_ n8_
                have p328 : 0 ≤ (x153_6 : Int) := of_decide_eq_true (by first | (with_reducible assumption) | assumption)
                have q328 : x153_6 < (x8_70.length : Int) := of_decide_eq_true (by first | (with_reducible assumption) | assumption)
                obtain ⟨ad328, e328, hx328_0⟩ := Kd.at_int (Kd.R_reads' HO_8.out).2.2 x153_6 p328 q328
                cases e328
                replace p328 := eq_true p328
                replace q328 := eq_true q328
                refine start_ (n := 19) (S := fun w' => w'.cell? (ad328.add (x153_6).toNat) = some (.int .i64 (rd x8_70 x153_6))) (ds := []) #[false, false, false, false, false, false, false, false, false, false, false, false, false, false, false, false, false, false, false] (by kernel_rfl) rfl rfl (hx328_0) (fun hHeld => ?_); refine with_tabW standbylaw56_PlannerSimulates.tab30 standbylaw56_PlannerSimulates.bits30 (fun HT_ HW_ => ?_)
                generalize wr.drew = w98 at HO_7 HO_8 HO_308000 HO_308001 HO_308002 HO_308003 BK290 BK307 HB hx328_0 hHeld ⊢
                refine pS (i := 0) (N := some 156) #[true, false, false, false, false, false, false, false, false, false, false, false, false, false, false, false, false, false, false] rfl rfl HT_.out ?_
                refine pS (i := 1) (N := some 157) #[true, true, false, false, false, false, false, false, false, false, false, false, false, false, false, false, false, false, false] rfl rfl HT_.out ?_
                refine pS (i := 2) (N := some 158) #[true, true, true, false, false, false, false, false, false, false, false, false, false, false, false, false, false, false, false] rfl rfl HT_.out ?_
                refine take_ (i := 3) (N := some 159) (v := ?_) (a' := ?_) #[true, true, true, true, false, false, false, false, false, false, false, false, false, false, false, false, false, false, false] rfl rfl (take_ofW HT_.out HW_.out (by kernel_rfl)) (fun _ _ _ h => h) (Or.inl ⟨by rfl, ?_⟩) hHeld ?_ ?_; rotate_left
                ·intro w' s0
                 go_simp
                 with_reducible rfl
                rotate_left
                ·simp only [Act.put, List.setIfInBounds_toArray, List.set_cons_zero, List.set_cons_succ, i64_w, i32_w]
                 rfl
                refine pS (i := 4) (N := some 160) #[true, true, true, true, true, false, false, false, false, false, false, false, false, false, false, false, false, false, false] rfl rfl HT_.out ?_
                refine pS (i := 5) (N := some 161) #[true, true, true, true, true, true, false, false, false, false, false, false, false, false, false, false, false, false, false] rfl rfl HT_.out ?_
                refine pU (i := 6) (N := some 162) #[true, true, true, true, true, true, true, false, false, false, false, false, false, false, false, false, false, false, false] rfl rfl HT_.out ?_
                refine pU (i := 7) (N := some 163) #[true, true, true, true, true, true, true, true, false, false, false, false, false, false, false, false, false, false, false] rfl rfl HT_.out ?_
                refine pU (i := 8) (N := some 164) #[true, true, true, true, true, true, true, true, true, false, false, false, false, false, false, false, false, false, false] rfl rfl HT_.out ?_
                refine pU (i := 9) (N := some 165) #[true, true, true, true, true, true, true, true, true, true, false, false, false, false, false, false, false, false, false] rfl rfl HT_.out ?_
                refine pU (i := 10) (N := some 166) #[true, true, true, true, true, true, true, true, true, true, true, false, false, false, false, false, false, false, false] rfl rfl HT_.out ?_
                refine pU (i := 11) (N := some 167) #[true, true, true, true, true, true, true, true, true, true, true, true, false, false, false, false, false, false, false] rfl rfl HT_.out ?_
                refine pU (i := 12) (N := some 168) #[true, true, true, true, true, true, true, true, true, true, true, true, true, false, false, false, false, false, false] rfl rfl HT_.out ?_
                refine pU (i := 13) (N := some 169) #[true, true, true, true, true, true, true, true, true, true, true, true, true, true, false, false, false, false, false] rfl rfl HT_.out ?_
                refine pU (i := 14) (N := some 170) #[true, true, true, true, true, true, true, true, true, true, true, true, true, true, true, false, false, false, false] rfl rfl HT_.out ?_
                refine pU (i := 15) (N := some 171) #[true, true, true, true, true, true, true, true, true, true, true, true, true, true, true, true, false, false, false] rfl rfl HT_.out ?_
                refine pU (i := 16) (N := some 172) #[true, true, true, true, true, true, true, true, true, true, true, true, true, true, true, true, true, false, false] rfl rfl HT_.out ?_
                refine pU (i := 17) (N := some 173) #[true, true, true, true, true, true, true, true, true, true, true, true, true, true, true, true, true, true, false] rfl rfl HT_.out ?_
                refine pS (i := 18) (N := some 174) #[true, true, true, true, true, true, true, true, true, true, true, true, true, true, true, true, true, true, true] rfl rfl HT_.out ?_
                refine done_ (done_of HT_.out (by kernel_rfl)) ?_
                try go_wp2
                go_roundg k6
                case measure => have := HK1.out; have := HK2.out; have := HJ33.out; have := HJ36.out; have := HJ70.out; have := HK6.out; omega
                case rel => exact ⟨(x12_6), (x13_6), (wrap64 (x153_6 + 1)), (by first | rfl | (simp; done) | (simp [*]; done)), (by first | rfl | (simp; done) | (simp [*]; done)), (by first | rfl | (simp; done) | (simp [*]; done)), H', ⟨by have := HK1.out; have := HK2.out; have := HJ33.out; have := HJ36.out; have := HJ70.out; have := HK6.out; omega⟩, ⟨by (try simp only [hl8_1]); (try simp only [hl8_2]); (try simp only [hl8_70]); exact qR HO_7.out⟩, ⟨by (try simp only [hl8_1]); (try simp only [hl8_2]); (try simp only [hl8_70]); exact qR HO_8.out⟩, ⟨by (try simp only [hl8_1]); (try simp only [hl8_2]); (try simp only [hl8_70]); exact qR HO_308000.out⟩, ⟨by (try simp only [hl8_1]); (try simp only [hl8_2]); (try simp only [hl8_70]); exact qR HO_308001.out⟩, ⟨by (try simp only [hl8_1]); (try simp only [hl8_2]); (try simp only [hl8_70]); exact qR HO_308002.out⟩, ⟨by (try simp only [hl8_1]); (try simp only [hl8_2]); (try simp only [hl8_70]); exact qR HO_308003.out⟩, ⟨by (try simp only [hl8_1]); (try simp only [hl8_2]); (try simp only [hl8_70]); exact qB BK290.out⟩, ⟨by (try simp only [hl8_1]); (try simp only [hl8_2]); (try simp only [hl8_70]); exact qB BK307.out⟩, ⟨by repeat (first | (with_reducible first | exact HB.out | apply below_alloc | apply pw_below_drewN | apply below_drew1 | refine below_set ?_ GE290.out | refine below_set ?_ GE307.out) | exact HB.out)⟩⟩
               rw [if_pos c92] at H
               have c92b0 : decide (0 ≤ (rd x8_70 x153_6)) = true := decide_eq_true c92
               clear c92
               by_cases c93 : (wrap64 ((wrap64 ((rd x8_70 x153_6) + a0_3)) + a0_4)) = x14_2
               case neg =>
                rw [if_neg c93] at H
                have c93b0 : ((wrap64 ((wrap64 ((rd x8_70 x153_6) + a0_3)) + a0_4)) == x14_2) = false := beq_eq_false_iff_ne.mpr c93
                have c93b1 : ((wrap64 ((wrap64 ((rd x8_70 x153_6) + a0_3)) + a0_4)) != x14_2) = true := bne_iff_ne.mpr c93
                have H' := Aside0.mk H
                clear H
                try go_wp2
                have n0_ := Aside0.mk (Kd.R_drew HO_7.out)
                have n1_ := Aside0.mk (Kd.R_drew HO_8.out)
                have n2_ := Aside0.mk (Kd.R_drew HO_308000.out)
                have n3_ := Aside0.mk (Kd.R_drew HO_308001.out)
                have n4_ := Aside0.mk (Kd.R_drew HO_308002.out)
                have n5_ := Aside0.mk (Kd.R_drew HO_308003.out)
                have n6_ := Aside0.mk (blk_drew BK290.out)
                have n7_ := Aside0.mk (blk_drew BK307.out)
                have n8_ := Aside0.mk (below_drew1 HB.out)
                clear HO_7 HO_8 HO_308000 HO_308001 HO_308002 HO_308003 BK290 BK307 HB
                have HO_7 := n0_
                have HO_8 := n1_
                have HO_308000 := n2_
                have HO_308001 := n3_
                have HO_308002 := n4_
                have HO_308003 := n5_
                have BK290 := n6_
                have BK307 := n7_
                have HB := n8_
                clear n0_ n1_ n2_ n3_ n4_ n5_ n6_ n7_ n8_
                have p328 : 0 ≤ (x153_6 : Int) := of_decide_eq_true (by first | (with_reducible assumption) | assumption)
                have q328 : x153_6 < (x8_70.length : Int) := of_decide_eq_true (by first | (with_reducible assumption) | assumption)
                obtain ⟨ad328, e328, hx328_0⟩ := Kd.at_int (Kd.R_reads' HO_8.out).2.2 x153_6 p328 q328
                cases e328
                replace p328 := eq_true p328
                replace q328 := eq_true q328
                have p329 : 0 ≤ (x153_6 : Int) := of_decide_eq_true (by first | (with_reducible assumption) | assumption)
                have q329 : x153_6 < (x8_70.length : Int) := of_decide_eq_true (by first | (with_reducible assumption) | assumption)
                obtain ⟨ad329, e329, hx329_0⟩ := Kd.at_int (Kd.R_reads' HO_8.out).2.2 x153_6 p329 q329
                obtain rfl : ad328 = ad329 := (by injection e329)
                replace p329 := eq_true p329
                replace q329 := eq_true q329
                refine start_ (n := 19) (S := fun w' => w'.cell? ⟨gb290, 0, none⟩ = some (.slice A0_0 l0_0.length c0_0) ∧ w'.cell? ⟨gb290, 1, none⟩ = some (.slice A0_1 l0_1.length c0_1) ∧ w'.cell? ⟨gb290, 2, none⟩ = some (.int .i64 a0_2) ∧ w'.cell? ⟨gb290, 3, none⟩ = some (.int .i64 a0_3) ∧ w'.cell? ⟨gb290, 4, none⟩ = some (.int .i64 a0_4) ∧ w'.cell? (ad328.add (x153_6).toNat) = some (.int .i64 (rd x8_70 x153_6)) ∧ w'.cell? (ad328.add (x153_6).toNat) = some (.int .i64 (rd x8_70 x153_6))) (ds := []) #[false, false, false, false, false, false, false, false, false, false, false, false, false, false, false, false, false, false, false] (by kernel_rfl) rfl rfl ⟨(blk_cell BK290.out 0).trans rfl, (blk_cell BK290.out 1).trans rfl, (blk_cell BK290.out 2).trans rfl, (blk_cell BK290.out 3).trans rfl, (blk_cell BK290.out 4).trans rfl, hx328_0, hx329_0⟩ (fun hHeld => ?_); refine with_tabW standbylaw56_PlannerSimulates.tab30 standbylaw56_PlannerSimulates.bits30 (fun HT_ HW_ => ?_)
                generalize wr.drew = w97 at HO_7 HO_8 HO_308000 HO_308001 HO_308002 HO_308003 BK290 BK307 HB hx328_0 hx329_0 hHeld ⊢
                refine pS (i := 0) (N := some 156) #[true, false, false, false, false, false, false, false, false, false, false, false, false, false, false, false, false, false, false] rfl rfl HT_.out ?_
                refine pS (i := 1) (N := some 157) #[true, true, false, false, false, false, false, false, false, false, false, false, false, false, false, false, false, false, false] rfl rfl HT_.out ?_
                refine pS (i := 2) (N := some 158) #[true, true, true, false, false, false, false, false, false, false, false, false, false, false, false, false, false, false, false] rfl rfl HT_.out ?_
                refine take_ (i := 3) (N := some 159) (v := ?_) (a' := ?_) #[true, true, true, true, false, false, false, false, false, false, false, false, false, false, false, false, false, false, false] rfl rfl (take_ofW HT_.out HW_.out (by kernel_rfl)) (fun _ _ _ h => h) (Or.inl ⟨by rfl, ?_⟩) hHeld ?_ ?_; rotate_left
                ·rintro w' ⟨s0, s1, s2, s3, s4, s5, s6⟩
                 go_simp
                 with_reducible rfl
                rotate_left
                ·simp only [Act.put, List.setIfInBounds_toArray, List.set_cons_zero, List.set_cons_succ, i64_w, i32_w]
                 rfl
                refine pS (i := 4) (N := some 160) #[true, true, true, true, true, false, false, false, false, false, false, false, false, false, false, false, false, false, false] rfl rfl HT_.out ?_
                refine pS (i := 5) (N := some 161) #[true, true, true, true, true, true, false, false, false, false, false, false, false, false, false, false, false, false, false] rfl rfl HT_.out ?_
                refine pS (i := 6) (N := some 162) #[true, true, true, true, true, true, true, false, false, false, false, false, false, false, false, false, false, false, false] rfl rfl HT_.out ?_
                refine pS (i := 7) (N := some 163) #[true, true, true, true, true, true, true, true, false, false, false, false, false, false, false, false, false, false, false] rfl rfl HT_.out ?_
                refine pS (i := 8) (N := some 164) #[true, true, true, true, true, true, true, true, true, false, false, false, false, false, false, false, false, false, false] rfl rfl HT_.out ?_
                refine pS (i := 10) (N := some 166) #[true, true, true, true, true, true, true, true, true, false, true, false, false, false, false, false, false, false, false] rfl rfl HT_.out ?_
                refine pS (i := 13) (N := some 169) #[true, true, true, true, true, true, true, true, true, false, true, false, false, true, false, false, false, false, false] rfl rfl HT_.out ?_
                refine pS (i := 16) (N := some 172) #[true, true, true, true, true, true, true, true, true, false, true, false, false, true, false, false, true, false, false] rfl rfl HT_.out ?_
                refine take_ (i := 9) (N := some 165) (v := ?_) (a' := ?_) #[true, true, true, true, true, true, true, true, true, true, true, false, false, true, false, false, true, false, false] rfl rfl (take_ofW HT_.out HW_.out (by kernel_rfl)) (fun _ _ _ h => h) (Or.inl ⟨by rfl, ?_⟩) hHeld ?_ ?_; rotate_left
                ·rintro w' ⟨s0, s1, s2, s3, s4, s5, s6⟩
                 go_simp
                 with_reducible rfl
                rotate_left
                ·simp only [Act.put, List.setIfInBounds_toArray, List.set_cons_zero, List.set_cons_succ, i64_w, i32_w]
                 rfl
                refine take_ (i := 11) (N := some 167) (v := ?_) (a' := ?_) #[true, true, true, true, true, true, true, true, true, true, true, true, false, true, false, false, true, false, false] rfl rfl (take_ofW HT_.out HW_.out (by kernel_rfl)) (fun _ _ _ h => h) (Or.inl ⟨by rfl, ?_⟩) hHeld ?_ ?_; rotate_left
                ·rintro w' ⟨s0, s1, s2, s3, s4, s5, s6⟩
                 go_simp
                 with_reducible rfl
                rotate_left
                ·simp only [Act.put, List.setIfInBounds_toArray, List.set_cons_zero, List.set_cons_succ, i64_w, i32_w]
                 rfl
                refine pS (i := 12) (N := some 168) #[true, true, true, true, true, true, true, true, true, true, true, true, true, true, false, false, true, false, false] rfl rfl HT_.out ?_
                refine take_ (i := 14) (N := some 170) (v := ?_) (a' := ?_) #[true, true, true, true, true, true, true, true, true, true, true, true, true, true, true, false, true, false, false] rfl rfl (take_ofW HT_.out HW_.out (by kernel_rfl)) (fun _ _ _ h => h) (Or.inl ⟨by rfl, ?_⟩) hHeld ?_ ?_; rotate_left
                ·rintro w' ⟨s0, s1, s2, s3, s4, s5, s6⟩
                 go_simp
                 with_reducible rfl
                rotate_left
                ·simp only [Act.put, List.setIfInBounds_toArray, List.set_cons_zero, List.set_cons_succ, i64_w, i32_w]
                 rfl
                refine pS (i := 15) (N := some 171) #[true, true, true, true, true, true, true, true, true, true, true, true, true, true, true, true, true, false, false] rfl rfl HT_.out ?_
                refine pS (i := 17) (N := some 173) #[true, true, true, true, true, true, true, true, true, true, true, true, true, true, true, true, true, true, false] rfl rfl HT_.out ?_
                refine pS (i := 18) (N := some 174) #[true, true, true, true, true, true, true, true, true, true, true, true, true, true, true, true, true, true, true] rfl rfl HT_.out ?_
                refine done_ (done_of HT_.out (by kernel_rfl)) ?_
                try go_wp2
                go_roundg k6
                case measure => have := HK1.out; have := HK2.out; have := HJ33.out; have := HJ36.out; have := HJ70.out; have := HK6.out; omega
                case rel => exact ⟨(x12_6), (x13_6), (wrap64 (x153_6 + 1)), (by first | rfl | (simp; done) | (simp [*]; done)), (by first | rfl | (simp; done) | (simp [*]; done)), (by first | rfl | (simp; done) | (simp [*]; done)), H', ⟨by have := HK1.out; have := HK2.out; have := HJ33.out; have := HJ36.out; have := HJ70.out; have := HK6.out; omega⟩, ⟨by (try simp only [hl8_1]); (try simp only [hl8_2]); (try simp only [hl8_70]); exact qR HO_7.out⟩, ⟨by (try simp only [hl8_1]); (try simp only [hl8_2]); (try simp only [hl8_70]); exact qR HO_8.out⟩, ⟨by (try simp only [hl8_1]); (try simp only [hl8_2]); (try simp only [hl8_70]); exact qR HO_308000.out⟩, ⟨by (try simp only [hl8_1]); (try simp only [hl8_2]); (try simp only [hl8_70]); exact qR HO_308001.out⟩, ⟨by (try simp only [hl8_1]); (try simp only [hl8_2]); (try simp only [hl8_70]); exact qR HO_308002.out⟩, ⟨by (try simp only [hl8_1]); (try simp only [hl8_2]); (try simp only [hl8_70]); exact qR HO_308003.out⟩, ⟨by (try simp only [hl8_1]); (try simp only [hl8_2]); (try simp only [hl8_70]); exact qB BK290.out⟩, ⟨by (try simp only [hl8_1]); (try simp only [hl8_2]); (try simp only [hl8_70]); exact qB BK307.out⟩, ⟨by repeat (first | (with_reducible first | exact HB.out | apply below_alloc | apply pw_below_drewN | apply below_drew1 | refine below_set ?_ GE290.out | refine below_set ?_ GE307.out) | exact HB.out)⟩⟩
               rw [if_pos c93] at H
               have c93b0 : ((wrap64 ((wrap64 ((rd x8_70 x153_6) + a0_3)) + a0_4)) == x14_2) = true := beq_iff_eq.mpr c93
               have c93b1 : ((wrap64 ((wrap64 ((rd x8_70 x153_6) + a0_3)) + a0_4)) != x14_2) = false := bne_eq_false_iff_eq.mpr c93
               clear c93
               have H' := Aside0.mk H
               clear H
               try go_wp2
               have n0_ := Aside0.mk (Kd.R_drew HO_7.out)
               have n1_ := Aside0.mk (Kd.R_drew HO_8.out)
               have n2_ := Aside0.mk (Kd.R_drew HO_308000.out)
               have n3_ := Aside0.mk (Kd.R_drew HO_308001.out)
               have n4_ := Aside0.mk (Kd.R_drew HO_308002.out)
               have n5_ := Aside0.mk (Kd.R_drew HO_308003.out)
               have n6_ := Aside0.mk (blk_drew BK290.out)
               have n7_ := Aside0.mk (blk_drew BK307.out)
               have n8_ := Aside0.mk (below_drew1 HB.out)
               clear HO_7 HO_8 HO_308000 HO_308001 HO_308002 HO_308003 BK290 BK307 HB
               have HO_7 := n0_
               have HO_8 := n1_
               have HO_308000 := n2_
               have HO_308001 := n3_
               have HO_308002 := n4_
               have HO_308003 := n5_
               have BK290 := n6_
               have BK307 := n7_
               have HB := n8_
               clear n0_ n1_ n2_ n3_ n4_ n5_ n6_ n7_ n8_
               have p328 : 0 ≤ (x153_6 : Int) := of_decide_eq_true (by first | (with_reducible assumption) | assumption)
               have q328 : x153_6 < (x8_70.length : Int) := of_decide_eq_true (by first | (with_reducible assumption) | assumption)
               obtain ⟨ad328, e328, hx328_0⟩ := Kd.at_int (Kd.R_reads' HO_8.out).2.2 x153_6 p328 q328
               cases e328
               replace p328 := eq_true p328
               replace q328 := eq_true q328
               have p329 : 0 ≤ (x153_6 : Int) := of_decide_eq_true (by first | (with_reducible assumption) | assumption)
               have q329 : x153_6 < (x8_70.length : Int) := of_decide_eq_true (by first | (with_reducible assumption) | assumption)
               obtain ⟨ad329, e329, hx329_0⟩ := Kd.at_int (Kd.R_reads' HO_8.out).2.2 x153_6 p329 q329
               obtain rfl : ad328 = ad329 := (by injection e329)
               replace p329 := eq_true p329
               replace q329 := eq_true q329
               refine start_ (n := 19) (S := fun w' => w'.cell? ⟨gb290, 0, none⟩ = some (.slice A0_0 l0_0.length c0_0) ∧ w'.cell? ⟨gb290, 1, none⟩ = some (.slice A0_1 l0_1.length c0_1) ∧ w'.cell? ⟨gb290, 2, none⟩ = some (.int .i64 a0_2) ∧ w'.cell? ⟨gb290, 3, none⟩ = some (.int .i64 a0_3) ∧ w'.cell? ⟨gb290, 4, none⟩ = some (.int .i64 a0_4) ∧ w'.cell? (ad328.add (x153_6).toNat) = some (.int .i64 (rd x8_70 x153_6)) ∧ w'.cell? (ad328.add (x153_6).toNat) = some (.int .i64 (rd x8_70 x153_6))) (ds := []) #[false, false, false, false, false, false, false, false, false, false, false, false, false, false, false, false, false, false, false] (by kernel_rfl) rfl rfl ⟨(blk_cell BK290.out 0).trans rfl, (blk_cell BK290.out 1).trans rfl, (blk_cell BK290.out 2).trans rfl, (blk_cell BK290.out 3).trans rfl, (blk_cell BK290.out 4).trans rfl, hx328_0, hx329_0⟩ (fun hHeld => ?_); refine with_tabW standbylaw56_PlannerSimulates.tab30 standbylaw56_PlannerSimulates.bits30 (fun HT_ HW_ => ?_)
               generalize wr.drew = w94 at HO_7 HO_8 HO_308000 HO_308001 HO_308002 HO_308003 BK290 BK307 HB hx328_0 hx329_0 hHeld ⊢
               refine pS (i := 0) (N := some 156) #[true, false, false, false, false, false, false, false, false, false, false, false, false, false, false, false, false, false, false] rfl rfl HT_.out ?_
               refine pS (i := 1) (N := some 157) #[true, true, false, false, false, false, false, false, false, false, false, false, false, false, false, false, false, false, false] rfl rfl HT_.out ?_
               refine pS (i := 2) (N := some 158) #[true, true, true, false, false, false, false, false, false, false, false, false, false, false, false, false, false, false, false] rfl rfl HT_.out ?_
               refine take_ (i := 3) (N := some 159) (v := ?_) (a' := ?_) #[true, true, true, true, false, false, false, false, false, false, false, false, false, false, false, false, false, false, false] rfl rfl (take_ofW HT_.out HW_.out (by kernel_rfl)) (fun _ _ _ h => h) (Or.inl ⟨by rfl, ?_⟩) hHeld ?_ ?_; rotate_left
               ·rintro w' ⟨s0, s1, s2, s3, s4, s5, s6⟩
                go_simp
                with_reducible rfl
               rotate_left
               ·simp only [Act.put, List.setIfInBounds_toArray, List.set_cons_zero, List.set_cons_succ, i64_w, i32_w]
                rfl
               refine pS (i := 4) (N := some 160) #[true, true, true, true, true, false, false, false, false, false, false, false, false, false, false, false, false, false, false] rfl rfl HT_.out ?_
               refine pS (i := 5) (N := some 161) #[true, true, true, true, true, true, false, false, false, false, false, false, false, false, false, false, false, false, false] rfl rfl HT_.out ?_
               refine pS (i := 6) (N := some 162) #[true, true, true, true, true, true, true, false, false, false, false, false, false, false, false, false, false, false, false] rfl rfl HT_.out ?_
               refine pS (i := 7) (N := some 163) #[true, true, true, true, true, true, true, true, false, false, false, false, false, false, false, false, false, false, false] rfl rfl HT_.out ?_
               refine pS (i := 8) (N := some 164) #[true, true, true, true, true, true, true, true, true, false, false, false, false, false, false, false, false, false, false] rfl rfl HT_.out ?_
               refine pS (i := 10) (N := some 166) #[true, true, true, true, true, true, true, true, true, false, true, false, false, false, false, false, false, false, false] rfl rfl HT_.out ?_
               refine pS (i := 13) (N := some 169) #[true, true, true, true, true, true, true, true, true, false, true, false, false, true, false, false, false, false, false] rfl rfl HT_.out ?_
               refine pS (i := 16) (N := some 172) #[true, true, true, true, true, true, true, true, true, false, true, false, false, true, false, false, true, false, false] rfl rfl HT_.out ?_
               refine take_ (i := 9) (N := some 165) (v := ?_) (a' := ?_) #[true, true, true, true, true, true, true, true, true, true, true, false, false, true, false, false, true, false, false] rfl rfl (take_ofW HT_.out HW_.out (by kernel_rfl)) (fun _ _ _ h => h) (Or.inl ⟨by rfl, ?_⟩) hHeld ?_ ?_; rotate_left
               ·rintro w' ⟨s0, s1, s2, s3, s4, s5, s6⟩
                go_simp
                with_reducible rfl
               rotate_left
               ·simp only [Act.put, List.setIfInBounds_toArray, List.set_cons_zero, List.set_cons_succ, i64_w, i32_w]
                rfl
               refine take_ (i := 11) (N := some 167) (v := ?_) (a' := ?_) #[true, true, true, true, true, true, true, true, true, true, true, true, false, true, false, false, true, false, false] rfl rfl (take_ofW HT_.out HW_.out (by kernel_rfl)) (fun _ _ _ h => h) (Or.inl ⟨by rfl, ?_⟩) hHeld ?_ ?_; rotate_left
               ·rintro w' ⟨s0, s1, s2, s3, s4, s5, s6⟩
                go_simp
                with_reducible rfl
               rotate_left
               ·simp only [Act.put, List.setIfInBounds_toArray, List.set_cons_zero, List.set_cons_succ, i64_w, i32_w]
                rfl
               refine pS (i := 12) (N := some 168) #[true, true, true, true, true, true, true, true, true, true, true, true, true, true, false, false, true, false, false] rfl rfl HT_.out ?_
               refine take_ (i := 14) (N := some 170) (v := ?_) (a' := ?_) #[true, true, true, true, true, true, true, true, true, true, true, true, true, true, true, false, true, false, false] rfl rfl (take_ofW HT_.out HW_.out (by kernel_rfl)) (fun _ _ _ h => h) (Or.inl ⟨by rfl, ?_⟩) hHeld ?_ ?_; rotate_left
               ·rintro w' ⟨s0, s1, s2, s3, s4, s5, s6⟩
                go_simp
                with_reducible rfl
               rotate_left
               ·simp only [Act.put, List.setIfInBounds_toArray, List.set_cons_zero, List.set_cons_succ, i64_w, i32_w]
                rfl
               refine pS (i := 15) (N := some 171) #[true, true, true, true, true, true, true, true, true, true, true, true, true, true, true, true, true, false, false] rfl rfl HT_.out ?_
               refine pS (i := 17) (N := some 173) #[true, true, true, true, true, true, true, true, true, true, true, true, true, true, true, true, true, true, false] rfl rfl HT_.out ?_
               refine pS (i := 18) (N := some 174) #[true, true, true, true, true, true, true, true, true, true, true, true, true, true, true, true, true, true, true] rfl rfl HT_.out ?_
               refine done_ (done_of HT_.out (by kernel_rfl)) ?_
               have hnb95 := NB290_307.out
               have hnc95 := NB307_290.out
               have hcz96_0 : w94.cell? ⟨gb290, 0, none⟩ = some (.slice A0_0 l0_0.length c0_0) := (blk_cell BK290.out 0).trans rfl
               have hcz96_1 : w94.cell? ⟨gb290, 1, none⟩ = some (.slice A0_1 l0_1.length c0_1) := (blk_cell BK290.out 1).trans rfl
               have hcz96_2 : w94.cell? ⟨gb290, 2, none⟩ = some (.int .i64 a0_2) := (blk_cell BK290.out 2).trans rfl
               have hcz96_3 : w94.cell? ⟨gb290, 3, none⟩ = some (.int .i64 a0_3) := (blk_cell BK290.out 3).trans rfl
               have hcz96_4 : w94.cell? ⟨gb290, 4, none⟩ = some (.int .i64 a0_4) := (blk_cell BK290.out 4).trans rfl
               have hfz96_0 := blk_frozen BK290.out 0
               have hfz96_1 := blk_frozen BK290.out 1
               have hfz96_2 := blk_frozen BK290.out 2
               have hfz96_3 := blk_frozen BK290.out 3
               have hfz96_4 := blk_frozen BK290.out 4
               try go_wp2
               go_roundg k6
               case measure => have := HK1.out; have := HK2.out; have := HJ33.out; have := HJ36.out; have := HJ70.out; have := HK6.out; omega
               case rel => exact ⟨(wrap64 ((wrap64 (x153_6 + 1)) * a0_2)), (wrap64 (x13_6 - 1)), (wrap64 (x153_6 + 1)), (by first | rfl | (simp; done) | (simp [*]; done)), (by first | rfl | (simp; done) | (simp [*]; done)), (by first | rfl | (simp; done) | (simp [*]; done)), H', ⟨by have := HK1.out; have := HK2.out; have := HJ33.out; have := HJ36.out; have := HJ70.out; have := HK6.out; omega⟩, ⟨by (try simp only [hl8_1]); (try simp only [hl8_2]); (try simp only [hl8_70]); exact qR HO_7.out⟩, ⟨by (try simp only [hl8_1]); (try simp only [hl8_2]); (try simp only [hl8_70]); exact qR HO_8.out⟩, ⟨by (try simp only [hl8_1]); (try simp only [hl8_2]); (try simp only [hl8_70]); exact qR HO_308000.out⟩, ⟨by (try simp only [hl8_1]); (try simp only [hl8_2]); (try simp only [hl8_70]); exact qR HO_308001.out⟩, ⟨by (try simp only [hl8_1]); (try simp only [hl8_2]); (try simp only [hl8_70]); exact qR HO_308002.out⟩, ⟨by (try simp only [hl8_1]); (try simp only [hl8_2]); (try simp only [hl8_70]); exact qR HO_308003.out⟩, ⟨by (try simp only [hl8_1]); (try simp only [hl8_2]); (try simp only [hl8_70]); exact qB BK290.out⟩, ⟨by (try simp only [hl8_1]); (try simp only [hl8_2]); (try simp only [hl8_70]); exact qB BK307.out⟩, ⟨by repeat (first | (with_reducible first | exact HB.out | apply below_alloc | apply pw_below_drewN | apply below_drew1 | refine below_set ?_ GE290.out | refine below_set ?_ GE307.out) | exact HB.out)⟩⟩
end Go.Proofs.Ytcflacjidabppaa.Pr

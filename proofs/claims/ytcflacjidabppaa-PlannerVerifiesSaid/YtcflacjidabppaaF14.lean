-- Written by pp.py, a program of this session, over the translation of the given program; a machine's text: Lean checks it.
import Derived.Test.YtcflacjidabppaaGShort
import Derived.Test.YtcflacjidabppaaF16
import Derived.Test.YtcflacjidabppaaF38
import Derived.Test.YtcflacjidabppaaF39
namespace Go.Proofs.Ytcflacjidabppaa.Pr
open Go.RowKit Go.Proofs.YtcflacjidabppaaW.PrintWords Go.Proofs.YtcflacjidabppaaW.PrintLast Go.Proofs.YtcflacjidabppaaW.PrintMore
attribute [local go_sem] max2_int min2_int max_two min_two max_three min_three max_four min_four   -- for this text's walks alone
set_option linter.unusedVariables false
set_option linter.unusedSimpArgs false

/-! ### standbyref56_Plan: function 14 -/
mutual
def standbyref56_Plan.l0 : Nat → Int → Int → Int → Int → List Int → List Int → Int → Int → Int → List Int → List Int → List Int → List Int → Int → Option (List Int × List Int × List Int × List Int × Int × Int)
 | 0, _, _, _, _, _, _, _, _, _, _, _, _, _, _ => none
 | k + 1, x6, x7, x8, x9, x183000, x183001, x183002, x183003, x183004, x186000, x186001, x186002, x186003, x186004 => if x9 < x6 then ((standbyref56_Size.f k x183000 x183001 x183002 x183003 x183004 x9).bind fun t186 => ((standbyref56_finish.f k x183000 x183001 x183002 x183003 x183004 (mx (wrap64 ((wrap64 (x9 + 1)) * x183002)) x7) t186).bind fun bt187 => (if bt187.2 = true then ((some (([wrap64 ((wrap64 (x9 + 1)) * x183002)] : List Int) : List Int)).bind fun y189 => (if x186000.length + y189.length < 17592186044416 then ((some (([mx (wrap64 ((wrap64 (x9 + 1)) * x183002)) x7] : List Int) : List Int)).bind fun y195 => (if x186001.length + y195.length < 17592186044416 then (standbyref56_Plan.j1 k x6 bt187.1 x8 x9 (wrap64 ((wrap64 (x9 + 1)) * x183002)) (wrap64 ((wrap64 (bt187.1 + x183003)) + x183004)) x183000 x183001 x183002 x183003 x183004 (x186000 ++ y189) (x186001 ++ y195) x186002 x186003 x186004) else (none))) else (none))) else (some (([] : List Int), ([] : List Int), ([] : List Int), ([] : List Int), 0, 21))))) else (if x6 > 0 then (some (x186000, x186001, x186002, x186003, mx x186004 (wrap64 ((wrap64 ((wrap64 (x7 + x183003)) + x183004)) - x8)), 0)) else (some (x186000, x186001, x186002, x186003, x186004, 0)))
def standbyref56_Plan.j1 : Nat → Int → Int → Int → Int → Int → Int → List Int → List Int → Int → Int → Int → List Int → List Int → List Int → List Int → Int → Option (List Int × List Int × List Int × List Int × Int × Int)
 | 0, _, _, _, _, _, _, _, _, _, _, _, _, _, _, _, _ => none
 | k + 1, x6, x7, x8, x9, x10, x14, x183000, x183001, x183002, x183003, x183004, x186000, x186001, x186002, x186003, x186004 => (some (([x7] : List Int) : List Int)).bind fun y201 => (if x186002.length + y201.length < 17592186044416 then ((some (([x14] : List Int) : List Int)).bind fun y207 => (if x186003.length + y207.length < 17592186044416 then (standbyref56_Plan.j2 k x6 x7 x8 x9 x10 x14 x183000 x183001 x183002 x183003 x183004 x186000 x186001 (x186002 ++ y201) (x186003 ++ y207) x186004) else (none))) else (none))
def standbyref56_Plan.j2 : Nat → Int → Int → Int → Int → Int → Int → List Int → List Int → Int → Int → Int → List Int → List Int → List Int → List Int → Int → Option (List Int × List Int × List Int × List Int × Int × Int)
 | 0, _, _, _, _, _, _, _, _, _, _, _, _, _, _, _, _ => none
 | k + 1, x6, x7, x8, x9, x10, x14, x183000, x183001, x183002, x183003, x183004, x186000, x186001, x186002, x186003, x186004 => if x9 = 0 then (standbyref56_Plan.l0 k x6 x7 x10 (wrap64 (x9 + 1)) x183000 x183001 x183002 x183003 x183004 x186000 x186001 x186002 x186003 (mx x186004 (wrap64 ((wrap64 (x14 - 1)) - x8)))) else (if 0 ≤ (wrap64 (x9 - 1)) then (if (wrap64 (x9 - 1)) < (x186003.length : Int) then (if x14 > (rd x186003 (wrap64 (x9 - 1))) then (standbyref56_Plan.l0 k x6 x7 x10 (wrap64 (x9 + 1)) x183000 x183001 x183002 x183003 x183004 x186000 x186001 x186002 x186003 (mx x186004 (wrap64 ((wrap64 (x14 - 1)) - x8)))) else (standbyref56_Plan.l0 k x6 x7 x10 (wrap64 (x9 + 1)) x183000 x183001 x183002 x183003 x183004 x186000 x186001 x186002 x186003 x186004)) else (none)) else (none))
end
def standbyref56_Plan.f (k : Nat) (l0_0 : List Int) (l0_1 : List Int) (a0_2 : Int) (a0_3 : Int) (a0_4 : Int) : Option (List Int × List Int × List Int × List Int × Int × Int) := (standbyref56_Check.f k l0_0 l0_1 a0_2 a0_3 a0_4).bind fun t184 => (if t184 = 0 then (if a0_2 = 0 then (none) else (standbyref56_Plan.l0 k (wrap64 (Int.tdiv (wrap64 ((wrap64 ((l0_0.length : Int) + a0_2)) - 1)) a0_2)) 0 0 0 l0_0 l0_1 a0_2 a0_3 a0_4 ([] : List Int) ([] : List Int) ([] : List Int) ([] : List Int) 0)) else (some (([] : List Int), ([] : List Int), ([] : List Int), ([] : List Int), 0, t184)))
theorem standbyref56_Plan.mono_l : ∀ k, (∀ y0 y1 y2 y3 y4 y5 y6 y7 y8 y9 y10 y11 y12 y13, LeO (standbyref56_Plan.l0 k y0 y1 y2 y3 y4 y5 y6 y7 y8 y9 y10 y11 y12 y13) (standbyref56_Plan.l0 (k + 1) y0 y1 y2 y3 y4 y5 y6 y7 y8 y9 y10 y11 y12 y13)) ∧ (∀ y0 y1 y2 y3 y4 y5 y6 y7 y8 y9 y10 y11 y12 y13 y14 y15, LeO (standbyref56_Plan.j1 k y0 y1 y2 y3 y4 y5 y6 y7 y8 y9 y10 y11 y12 y13 y14 y15) (standbyref56_Plan.j1 (k + 1) y0 y1 y2 y3 y4 y5 y6 y7 y8 y9 y10 y11 y12 y13 y14 y15)) ∧ (∀ y0 y1 y2 y3 y4 y5 y6 y7 y8 y9 y10 y11 y12 y13 y14 y15, LeO (standbyref56_Plan.j2 k y0 y1 y2 y3 y4 y5 y6 y7 y8 y9 y10 y11 y12 y13 y14 y15) (standbyref56_Plan.j2 (k + 1) y0 y1 y2 y3 y4 y5 y6 y7 y8 y9 y10 y11 y12 y13 y14 y15))
 | 0 => ⟨fun _ _ _ _ _ _ _ _ _ _ _ _ _ _ r h => by simp [standbyref56_Plan.l0] at h, fun _ _ _ _ _ _ _ _ _ _ _ _ _ _ _ _ r h => by simp [standbyref56_Plan.j1] at h, fun _ _ _ _ _ _ _ _ _ _ _ _ _ _ _ _ r h => by simp [standbyref56_Plan.j2] at h⟩
 | k + 1 => by
  obtain ⟨ih0, ih1, ih2⟩ := standbyref56_Plan.mono_l k
  refine ⟨?_, ?_, ?_⟩
  ·intro y0 y1 y2 y3 y4 y5 y6 y7 y8 y9 y10 y11 y12 y13
   unfold standbyref56_Plan.l0
   repeat' first
   | (with_reducible exact ih0 _ _ _ _ _ _ _ _ _ _ _ _ _ _)
   | (with_reducible exact ih1 _ _ _ _ _ _ _ _ _ _ _ _ _ _ _ _)
   | (with_reducible exact ih2 _ _ _ _ _ _ _ _ _ _ _ _ _ _ _ _)
   | (with_reducible exact standbyref56_Check.mono _ _ _ _ _ _)
   | (with_reducible exact standbyref56_Size.mono _ _ _ _ _ _ _)
   | (with_reducible exact standbyref56_finish.mono _ _ _ _ _ _ _ _)
   | (with_reducible exact LeO.refl _)
   | (with_reducible exact LeO.none _)
   | (with_reducible refine LeO.ite ?_ ?_)
   | (with_reducible refine LeO.bind ?_ (fun _ => ?_))
   | exact ih0 _ _ _ _ _ _ _ _ _ _ _ _ _ _
   | exact ih1 _ _ _ _ _ _ _ _ _ _ _ _ _ _ _ _
   | exact ih2 _ _ _ _ _ _ _ _ _ _ _ _ _ _ _ _
   | exact standbyref56_Check.mono _ _ _ _ _ _
   | exact standbyref56_Size.mono _ _ _ _ _ _ _
   | exact standbyref56_finish.mono _ _ _ _ _ _ _ _
   | exact LeO.none _
   | refine LeO.ite ?_ ?_
   | refine LeO.bind ?_ (fun _ => ?_)
  ·intro y0 y1 y2 y3 y4 y5 y6 y7 y8 y9 y10 y11 y12 y13 y14 y15
   unfold standbyref56_Plan.j1
   repeat' first
   | (with_reducible exact ih0 _ _ _ _ _ _ _ _ _ _ _ _ _ _)
   | (with_reducible exact ih1 _ _ _ _ _ _ _ _ _ _ _ _ _ _ _ _)
   | (with_reducible exact ih2 _ _ _ _ _ _ _ _ _ _ _ _ _ _ _ _)
   | (with_reducible exact standbyref56_Check.mono _ _ _ _ _ _)
   | (with_reducible exact standbyref56_Size.mono _ _ _ _ _ _ _)
   | (with_reducible exact standbyref56_finish.mono _ _ _ _ _ _ _ _)
   | (with_reducible exact LeO.refl _)
   | (with_reducible exact LeO.none _)
   | (with_reducible refine LeO.ite ?_ ?_)
   | (with_reducible refine LeO.bind ?_ (fun _ => ?_))
   | exact ih0 _ _ _ _ _ _ _ _ _ _ _ _ _ _
   | exact ih1 _ _ _ _ _ _ _ _ _ _ _ _ _ _ _ _
   | exact ih2 _ _ _ _ _ _ _ _ _ _ _ _ _ _ _ _
   | exact standbyref56_Check.mono _ _ _ _ _ _
   | exact standbyref56_Size.mono _ _ _ _ _ _ _
   | exact standbyref56_finish.mono _ _ _ _ _ _ _ _
   | exact LeO.none _
   | refine LeO.ite ?_ ?_
   | refine LeO.bind ?_ (fun _ => ?_)
  ·intro y0 y1 y2 y3 y4 y5 y6 y7 y8 y9 y10 y11 y12 y13 y14 y15
   unfold standbyref56_Plan.j2
   repeat' first
   | (with_reducible exact ih0 _ _ _ _ _ _ _ _ _ _ _ _ _ _)
   | (with_reducible exact ih1 _ _ _ _ _ _ _ _ _ _ _ _ _ _ _ _)
   | (with_reducible exact ih2 _ _ _ _ _ _ _ _ _ _ _ _ _ _ _ _)
   | (with_reducible exact standbyref56_Check.mono _ _ _ _ _ _)
   | (with_reducible exact standbyref56_Size.mono _ _ _ _ _ _ _)
   | (with_reducible exact standbyref56_finish.mono _ _ _ _ _ _ _ _)
   | (with_reducible exact LeO.refl _)
   | (with_reducible exact LeO.none _)
   | (with_reducible refine LeO.ite ?_ ?_)
   | (with_reducible refine LeO.bind ?_ (fun _ => ?_))
   | exact ih0 _ _ _ _ _ _ _ _ _ _ _ _ _ _
   | exact ih1 _ _ _ _ _ _ _ _ _ _ _ _ _ _ _ _
   | exact ih2 _ _ _ _ _ _ _ _ _ _ _ _ _ _ _ _
   | exact standbyref56_Check.mono _ _ _ _ _ _
   | exact standbyref56_Size.mono _ _ _ _ _ _ _
   | exact standbyref56_finish.mono _ _ _ _ _ _ _ _
   | exact LeO.none _
   | refine LeO.ite ?_ ?_
   | refine LeO.bind ?_ (fun _ => ?_)
theorem standbyref56_Plan.mono : ∀ a0 a1 a2 a3 a4 k, LeO (standbyref56_Plan.f k a0 a1 a2 a3 a4) (standbyref56_Plan.f (k + 1) a0 a1 a2 a3 a4) := by
 intro a0 a1 a2 a3 a4 k
 obtain ⟨ih0, ih1, ih2⟩ := standbyref56_Plan.mono_l k
 unfold standbyref56_Plan.f
 repeat' first
   | (with_reducible exact ih0 _ _ _ _ _ _ _ _ _ _ _ _ _ _)
   | (with_reducible exact ih1 _ _ _ _ _ _ _ _ _ _ _ _ _ _ _ _)
   | (with_reducible exact ih2 _ _ _ _ _ _ _ _ _ _ _ _ _ _ _ _)
   | (with_reducible exact standbyref56_Check.mono _ _ _ _ _ _)
   | (with_reducible exact standbyref56_Size.mono _ _ _ _ _ _ _)
   | (with_reducible exact standbyref56_finish.mono _ _ _ _ _ _ _ _)
   | (with_reducible exact LeO.refl _)
   | (with_reducible exact LeO.none _)
   | (with_reducible refine LeO.ite ?_ ?_)
   | (with_reducible refine LeO.bind ?_ (fun _ => ?_))
   | exact ih0 _ _ _ _ _ _ _ _ _ _ _ _ _ _
   | exact ih1 _ _ _ _ _ _ _ _ _ _ _ _ _ _ _ _
   | exact ih2 _ _ _ _ _ _ _ _ _ _ _ _ _ _ _ _
   | exact standbyref56_Check.mono _ _ _ _ _ _
   | exact standbyref56_Size.mono _ _ _ _ _ _ _
   | exact standbyref56_finish.mono _ _ _ _ _ _ _ _
   | exact LeO.none _
   | refine LeO.ite ?_ ?_
   | refine LeO.bind ?_ (fun _ => ?_)
def standbyref56_Plan.T12 : Bool × List (List Nat × List Nat) := (true, [([], []), ([], []), ([], []), ([], []), ([2, 3], [2, 3]), ([0, 1, 4, 4], [0, 1, 4]), ([5], [5]), ([6], [6]), ([6], [6]), ([7, 5, 0, 1, 2, 3, 4, 5, 6, 7], [7]), ([8, 9, 0, 1, 2, 3, 4, 5, 6, 7, 8, 9], [8])])
def standbyref56_Plan.B12 : List Nat := [0, 0, 0, 0, 12, 31, 63, 127, 127, 255, 1023]
theorem standbyref56_Plan.tab12 : rtab .any (opsOf Try.f14 12) = standbyref56_Plan.T12 := by kernel_rfl
theorem standbyref56_Plan.bits12 : waitsOk standbyref56_Plan.T12.2 standbyref56_Plan.B12 = true := by kernel_rfl
def standbyref56_Plan.T17 : Bool × List (List Nat × List Nat) := (true, [([], []), ([0], [0]), ([], []), ([2], [2]), ([1, 3], [1, 3]), ([], []), ([5], [5]), ([], []), ([7], [7]), ([6, 8, 4], [6, 8]), ([0, 1, 2, 3, 4, 5, 6], []), ([10, 4, 9, 0, 1, 2, 3, 4, 5, 6], [4, 10]), ([0, 1, 2, 3, 4, 5, 6, 7, 8, 9, 10, 11], []), ([12, 9, 11, 0, 1, 2, 3, 4, 5, 6, 7, 8, 9, 10, 11], [9, 12])])
def standbyref56_Plan.B17 : List Nat := [0, 1, 0, 4, 15, 0, 32, 0, 128, 511, 127, 2047, 4095, 8191]
theorem standbyref56_Plan.tab17 : rtab .any (opsOf Try.f14 17) = standbyref56_Plan.T17 := by kernel_rfl
theorem standbyref56_Plan.bits17 : waitsOk standbyref56_Plan.T17.2 standbyref56_Plan.B17 = true := by kernel_rfl
def standbyref56_Plan.T18 : Bool × List (List Nat × List Nat) := (true, [([], []), ([0], [0]), ([], []), ([2], [2]), ([1, 3], [1, 3]), ([], []), ([5], [5]), ([], []), ([7], [7]), ([6, 8, 4], [6, 8]), ([0, 1, 2, 3, 4, 5, 6], []), ([10, 4, 9, 0, 1, 2, 3, 4, 5, 6], [4, 10]), ([0, 1, 2, 3, 4, 5, 6, 7, 8, 9, 10, 11], []), ([12, 9, 11, 0, 1, 2, 3, 4, 5, 6, 7, 8, 9, 10, 11], [9, 12])])
def standbyref56_Plan.B18 : List Nat := [0, 1, 0, 4, 15, 0, 32, 0, 128, 511, 127, 2047, 4095, 8191]
theorem standbyref56_Plan.tab18 : rtab .any (opsOf Try.f14 18) = standbyref56_Plan.T18 := by kernel_rfl
theorem standbyref56_Plan.bits18 : waitsOk standbyref56_Plan.T18.2 standbyref56_Plan.B18 = true := by kernel_rfl
set_option maxHeartbeats 8000000 in
set_option maxRecDepth 100000 in
theorem standbyref56_Plan.calls (k : Nat) (A0_0 : Option Addr) (c0_0 : Nat) (l0_0 : List Int) (A0_1 : Option Addr) (c0_1 : Nat) (l0_1 : List Int) (a0_2 : Int) (a0_3 : Int) (a0_4 : Int) (r1 : List Int) (r2 : List Int) (r3 : List Int) (r4 : List Int) (r5 : Int) (r6 : Int) (w : World) (hr0_0 : Kd.C (Kd.int .i64) w A0_0 l0_0.length l0_0) (hc0_0 : l0_0.length ≤ c0_0) (hr0_1 : Kd.C (Kd.int .i64) w A0_1 l0_1.length l0_1) (hc0_1 : l0_1.length ≤ c0_1) (h : standbyref56_Plan.f k l0_0 l0_1 a0_2 a0_3 a0_4 = some (r1, r2, r3, r4, r5, r6)) :
  Calls Try.prog 14 #[.agg #[.slice A0_0 l0_0.length c0_0, .slice A0_1 l0_1.length c0_1, .int .i64 a0_2, .int .i64 a0_3, .int .i64 a0_4]] w fun e w' => ∃ v0_ v1_ v2_ v3_ : Value, e = .returned (.tuple #[.agg #[v0_, v1_, v2_, v3_, .int .i64 r5], .int .i64 r6]) ∧ Kd.R (Kd.int .i64) 3 w' w.heap.size (fun k_ => some k_ ≠ (v1_ : Value).ownBlock ∧ some k_ ≠ (v2_ : Value).ownBlock ∧ some k_ ≠ (v3_ : Value).ownBlock) v0_ r1 ∧ Kd.R (Kd.int .i64) 3 w' w.heap.size (fun k_ => some k_ ≠ (v0_ : Value).ownBlock ∧ some k_ ≠ (v2_ : Value).ownBlock ∧ some k_ ≠ (v3_ : Value).ownBlock) v1_ r2 ∧ Kd.R (Kd.int .i64) 3 w' w.heap.size (fun k_ => some k_ ≠ (v0_ : Value).ownBlock ∧ some k_ ≠ (v1_ : Value).ownBlock ∧ some k_ ≠ (v3_ : Value).ownBlock) v2_ r3 ∧ Kd.R (Kd.int .i64) 3 w' w.heap.size (fun k_ => some k_ ≠ (v0_ : Value).ownBlock ∧ some k_ ≠ (v1_ : Value).ownBlock ∧ some k_ ≠ (v2_ : Value).ownBlock) v3_ r4 ∧ Below w.heap.size w w' := by
 have hu24 := Try.underlying24
 have hu28 := Try.underlying28
 have HR0_0 := Aside0.mk hr0_0
 have HC0_0 := Aside0.mk hc0_0
 clear hr0_0 hc0_0
 have HR0_1 := Aside0.mk hr0_1
 have HC0_1 := Aside0.mk hc0_1
 clear hr0_1 hc0_1
 have HB := Aside0.mk (Below.refl w.heap.size w)
 have H : ((standbyref56_Check.f k l0_0 l0_1 a0_2 a0_3 a0_4).bind fun t184 => (if t184 = 0 then (if a0_2 = 0 then (none) else (standbyref56_Plan.l0 k (wrap64 (Int.tdiv (wrap64 ((wrap64 ((l0_0.length : Int) + a0_2)) - 1)) a0_2)) 0 0 0 l0_0 l0_1 a0_2 a0_3 a0_4 ([] : List Int) ([] : List Int) ([] : List Int) ([] : List Int) 0)) else (some (([] : List Int), ([] : List Int), ([] : List Int), ([] : List Int), 0, t184)))) = some (r1, r2, r3, r4, r5, r6) := h
 clear h
 replace H := Option.bind_eq_some_iff.mp H
 obtain ⟨t184, A20, H⟩ := H
 replace H : (if t184 = 0 then (if a0_2 = 0 then (none) else (standbyref56_Plan.l0 k (wrap64 (Int.tdiv (wrap64 ((wrap64 ((l0_0.length : Int) + a0_2)) - 1)) a0_2)) 0 0 0 l0_0 l0_1 a0_2 a0_3 a0_4 ([] : List Int) ([] : List Int) ([] : List Int) ([] : List Int) 0)) else (some (([] : List Int), ([] : List Int), ([] : List Int), ([] : List Int), 0, t184))) = some (r1, r2, r3, r4, r5, r6) := H
 have A2 := Aside0.mk A20
 clear A20
 by_cases c3 : t184 = 0
 case neg =>
  rw [if_neg c3] at H
  have c3b0 : (t184 == 0) = false := beq_eq_false_iff_ne.mpr c3
  have c3b1 : (t184 != 0) = true := bne_iff_ne.mpr c3
  simp only [Option.some.injEq, Prod.mk.injEq] at H
  obtain ⟨rfl, rfl, rfl, rfl, rfl, rfl⟩ := H
  go_enter Try.func14, Try.ntmps14
  go_wp2_with (first | ((with_reducible refine gate_dst (N := 1) rfl ?_); refine box_event ?hg (N := 1) ?hd (cs := #[.slice A0_0 l0_0.length c0_0, .slice A0_1 l0_1.length c0_1, .int .i64 a0_2, .int .i64 a0_3, .int .i64 a0_4]) (t := 24) ?hr ?_; (case hd => rfl); (case hg => rfl); (case hr => first | (go_simp; done) | (go_simp; rfl)); intro gb182 hg w110 hbox hb; have n0_ := Aside0.mk (below_step (qW HB.out) hb); have n1_ := Aside0.mk (hbox); have n2_ := Aside0.mk ((by rw [hg]; exact (below_size (qW HB.out)) : w.heap.size ≤ gb182)); have n3_ := Aside0.mk ((by rw [hg]; exact (below_size (qW HB.out)) : w.heap.size ≤ gb182)); clear HB; have HB := n0_; have BK182 := n1_; have GW182 := n2_; have GE182 := n3_; clear n0_ n1_ n2_ n3_ hb hbox hg) | ((with_reducible refine gate_dst (N := 2) rfl ?_); refine box_event ?hg (N := 2) ?hd (cs := #[.slice none 0 0, .slice none 0 0, .slice none 0 0, .slice none 0 0, .int .i64 0]) (t := 28) ?hr ?_; (case hd => rfl); (case hg => rfl); (case hr => first | (go_simp; done) | (go_simp; rfl)); intro gb183 hg w111 hbox hb; have n0_ := Aside0.mk (blk_below (qB BK182.out) hb); have n1_ := Aside0.mk (below_step (qW HB.out) hb); have n2_ := Aside0.mk (hbox); have n3_ := Aside0.mk ((by rw [hg]; exact (below_size (qW HB.out)) : w.heap.size ≤ gb183)); have n4_ := Aside0.mk ((by rw [hg]; exact (below_size (qW HB.out)) : w.heap.size ≤ gb183)); have n5_ := Aside0.mk ((by rw [hg]; exact Nat.ne_of_lt (blk_lt (qB BK182.out)) : gb182 ≠ gb183)); have n6_ := Aside0.mk ((by rw [hg]; exact Nat.ne_of_gt (blk_lt (qB BK182.out)) : gb183 ≠ gb182)); clear BK182 HB; have BK182 := n0_; have HB := n1_; have BK183 := n2_; have GW183 := n3_; have GE183 := n4_; have NB182_183 := n5_; have NB183_182 := n6_; clear n0_ n1_ n2_ n3_ n4_ n5_ n6_ hb hbox hg; have hnb112 := NB182_183.out; have hnc112 := NB183_182.out; have hcz113_0 : w111.cell? ⟨gb182, 0, none⟩ = some (.slice A0_0 l0_0.length c0_0) := (blk_cell BK182.out 0).trans rfl; have hcz113_1 : w111.cell? ⟨gb182, 1, none⟩ = some (.slice A0_1 l0_1.length c0_1) := (blk_cell BK182.out 1).trans rfl; have hcz113_2 : w111.cell? ⟨gb182, 2, none⟩ = some (.int .i64 a0_2) := (blk_cell BK182.out 2).trans rfl; have hcz113_3 : w111.cell? ⟨gb182, 3, none⟩ = some (.int .i64 a0_3) := (blk_cell BK182.out 3).trans rfl; have hcz113_4 : w111.cell? ⟨gb182, 4, none⟩ = some (.int .i64 a0_4) := (blk_cell BK182.out 4).trans rfl; have hfz113_0 := blk_frozen BK182.out 0; have hfz113_1 := blk_frozen BK182.out 1; have hfz113_2 := blk_frozen BK182.out 2; have hfz113_3 := blk_frozen BK182.out 3; have hfz113_4 := blk_frozen BK182.out 4) | ((with_reducible refine gate_callee (f := 16) rfl ?_); refine goesL_ (some 16) rfl rfl Try.func16 (by kernel_rfl) rfl #[.agg #[.slice A0_0 l0_0.length c0_0, .slice A0_1 l0_1.length c0_1, .int .i64 a0_2, .int .i64 a0_3, .int .i64 a0_4]] rfl (by (try simp only [List.map_toArray, List.map_cons, List.map_nil]); first | done | rfl | (simp only [List.length_drop, List.length_take]; rfl)) ?_; (with_reducible refine (standbyref56_Check.calls k _ _ l0_0 _ _ l0_1 a0_2 a0_3 a0_4 t184 _ ?side1 ?side2 ?side3 ?side4 A2.out).mono ?_); (case side1 => exact qC HR0_0.out HB.out); (case side2 => exact HC0_0.out); (case side3 => exact qC HR0_1.out HB.out); (case side4 => exact HC0_1.out); rintro e w114 ⟨rfl, hb⟩; refine ⟨_, rfl, ?_⟩; have n0_ := Aside0.mk (blk_below (qB BK182.out) hb); have n1_ := Aside0.mk (blk_below (qB BK183.out) hb); have n2_ := Aside0.mk (below_step (qW HB.out) hb); clear BK182 BK183 HB; have BK182 := n0_; have BK183 := n1_; have HB := n2_; clear n0_ n1_ n2_; (try clear hb); (try clear hb2); (try clear hk); (try clear hi); have hcz115_0 : w114.cell? ⟨gb183, 0, none⟩ = some (.slice none 0 0) := (blk_cell BK183.out 0).trans rfl; have hcz115_1 : w114.cell? ⟨gb183, 1, none⟩ = some (.slice none 0 0) := (blk_cell BK183.out 1).trans rfl; have hcz115_2 : w114.cell? ⟨gb183, 2, none⟩ = some (.slice none 0 0) := (blk_cell BK183.out 2).trans rfl; have hcz115_3 : w114.cell? ⟨gb183, 3, none⟩ = some (.slice none 0 0) := (blk_cell BK183.out 3).trans rfl; have hcz115_4 : w114.cell? ⟨gb183, 4, none⟩ = some (.int .i64 0) := (blk_cell BK183.out 4).trans rfl; have hfz115_0 := blk_frozen BK183.out 0; have hfz115_1 := blk_frozen BK183.out 1; have hfz115_2 := blk_frozen BK183.out 2; have hfz115_3 := blk_frozen BK183.out 3; have hfz115_4 := blk_frozen BK183.out 4))
  refine bodyPost_ret (results_ct rfl _ _ gb183 28 #[.slice none 0 0, .slice none 0 0, .slice none 0 0, .slice none 0 0, .int .i64 0] (0, 0) _ rfl (by (with_reducible repeat (first | refine blk_drewN ?_ _ | refine blk_drew ?_ | refine blk_alloc ?_ _)); refine blk_put (cs := #[.slice none 0 0, .slice none 0 0, .slice none 0 0, .slice none 0 0, .int .i64 0]) ?_ 4 _ rfl; (with_reducible repeat (first | refine blk_drewN ?_ _ | refine blk_drew ?_ | refine blk_alloc ?_ _)); refine blk_put (cs := #[.slice none 0 0, .slice none 0 0, .slice none 0 0, .slice none 0 0, .int .i64 0]) ?_ 3 _ rfl; (with_reducible repeat (first | refine blk_drewN ?_ _ | refine blk_drew ?_ | refine blk_alloc ?_ _)); refine blk_put (cs := #[.slice none 0 0, .slice none 0 0, .slice none 0 0, .slice none 0 0, .int .i64 0]) ?_ 2 _ rfl; (with_reducible repeat (first | refine blk_drewN ?_ _ | refine blk_drew ?_ | refine blk_alloc ?_ _)); refine blk_put (cs := #[.slice none 0 0, .slice none 0 0, .slice none 0 0, .slice none 0 0, .int .i64 0]) ?_ 1 _ rfl; (with_reducible repeat (first | refine blk_drewN ?_ _ | refine blk_drew ?_ | refine blk_alloc ?_ _)); refine blk_put (cs := #[.slice none 0 0, .slice none 0 0, .slice none 0 0, .slice none 0 0, .int .i64 0]) ?_ 0 _ rfl; exact qB BK183.out) Try.underlying28 rfl (by kernel_rfl)) rfl ?_
  exact ⟨_, _, _, _, by first | rfl | (simp [errW_none, errW_some] <;> rfl) | (simp [*, errW_none, errW_some] <;> rfl), by first | exact Kd.R_nil _ _ _ _ _ | exact Kd.N_nil _ _ _ _ _ | exact Kd.V_nil _ _ _ _ _ | exact Kd.Q_nil _ _ _ _ _ | exact Kd.S_nil _ _ _ _ _, by first | exact Kd.R_nil _ _ _ _ _ | exact Kd.N_nil _ _ _ _ _ | exact Kd.V_nil _ _ _ _ _ | exact Kd.Q_nil _ _ _ _ _ | exact Kd.S_nil _ _ _ _ _, by first | exact Kd.R_nil _ _ _ _ _ | exact Kd.N_nil _ _ _ _ _ | exact Kd.V_nil _ _ _ _ _ | exact Kd.Q_nil _ _ _ _ _ | exact Kd.S_nil _ _ _ _ _, by first | exact Kd.R_nil _ _ _ _ _ | exact Kd.N_nil _ _ _ _ _ | exact Kd.V_nil _ _ _ _ _ | exact Kd.Q_nil _ _ _ _ _ | exact Kd.S_nil _ _ _ _ _, by repeat (first | (with_reducible first | exact HB.out | apply below_alloc | apply pw_below_drewN | apply below_drew1 | refine below_set ?_ GE182.out | refine below_set ?_ GE183.out) | exact HB.out)⟩

 rw [if_pos c3] at H
 have c3b0 : (t184 == 0) = true := beq_iff_eq.mpr c3
 have c3b1 : (t184 != 0) = false := bne_eq_false_iff_eq.mpr c3
 clear c3
 by_cases c4 : a0_2 = 0
 ·rw [if_pos c4] at H
  exact absurd H (by simp)
 ·rw [if_neg c4] at H
  have c4b0 : (a0_2 == 0) = false := beq_eq_false_iff_ne.mpr c4
  have c4b1 : (a0_2 != 0) = true := bne_iff_ne.mpr c4
  have H' := Aside0.mk H
  clear H
  go_enter Try.func14, Try.ntmps14
  go_wp2_with (first | ((with_reducible refine gate_dst (N := 1) rfl ?_); refine box_event ?hg (N := 1) ?hd (cs := #[.slice A0_0 l0_0.length c0_0, .slice A0_1 l0_1.length c0_1, .int .i64 a0_2, .int .i64 a0_3, .int .i64 a0_4]) (t := 24) ?hr ?_; (case hd => rfl); (case hg => rfl); (case hr => first | (go_simp; done) | (go_simp; rfl)); intro gb182 hg w5 hbox hb; have n0_ := Aside0.mk (below_step (qW HB.out) hb); have n1_ := Aside0.mk (hbox); have n2_ := Aside0.mk ((by rw [hg]; exact (below_size (qW HB.out)) : w.heap.size ≤ gb182)); have n3_ := Aside0.mk ((by rw [hg]; exact (below_size (qW HB.out)) : w.heap.size ≤ gb182)); clear HB; have HB := n0_; have BK182 := n1_; have GW182 := n2_; have GE182 := n3_; clear n0_ n1_ n2_ n3_ hb hbox hg) | ((with_reducible refine gate_dst (N := 2) rfl ?_); refine box_event ?hg (N := 2) ?hd (cs := #[.slice none 0 0, .slice none 0 0, .slice none 0 0, .slice none 0 0, .int .i64 0]) (t := 28) ?hr ?_; (case hd => rfl); (case hg => rfl); (case hr => first | (go_simp; done) | (go_simp; rfl)); intro gb183 hg w6 hbox hb; have n0_ := Aside0.mk (blk_below (qB BK182.out) hb); have n1_ := Aside0.mk (below_step (qW HB.out) hb); have n2_ := Aside0.mk (hbox); have n3_ := Aside0.mk ((by rw [hg]; exact (below_size (qW HB.out)) : w.heap.size ≤ gb183)); have n4_ := Aside0.mk ((by rw [hg]; exact (below_size (qW HB.out)) : w.heap.size ≤ gb183)); have n5_ := Aside0.mk ((by rw [hg]; exact Nat.ne_of_lt (blk_lt (qB BK182.out)) : gb182 ≠ gb183)); have n6_ := Aside0.mk ((by rw [hg]; exact Nat.ne_of_gt (blk_lt (qB BK182.out)) : gb183 ≠ gb182)); clear BK182 HB; have BK182 := n0_; have HB := n1_; have BK183 := n2_; have GW183 := n3_; have GE183 := n4_; have NB182_183 := n5_; have NB183_182 := n6_; clear n0_ n1_ n2_ n3_ n4_ n5_ n6_ hb hbox hg; have hnb7 := NB182_183.out; have hnc7 := NB183_182.out; have hcz8_0 : w6.cell? ⟨gb182, 0, none⟩ = some (.slice A0_0 l0_0.length c0_0) := (blk_cell BK182.out 0).trans rfl; have hcz8_1 : w6.cell? ⟨gb182, 1, none⟩ = some (.slice A0_1 l0_1.length c0_1) := (blk_cell BK182.out 1).trans rfl; have hcz8_2 : w6.cell? ⟨gb182, 2, none⟩ = some (.int .i64 a0_2) := (blk_cell BK182.out 2).trans rfl; have hcz8_3 : w6.cell? ⟨gb182, 3, none⟩ = some (.int .i64 a0_3) := (blk_cell BK182.out 3).trans rfl; have hcz8_4 : w6.cell? ⟨gb182, 4, none⟩ = some (.int .i64 a0_4) := (blk_cell BK182.out 4).trans rfl; have hfz8_0 := blk_frozen BK182.out 0; have hfz8_1 := blk_frozen BK182.out 1; have hfz8_2 := blk_frozen BK182.out 2; have hfz8_3 := blk_frozen BK182.out 3; have hfz8_4 := blk_frozen BK182.out 4) | ((with_reducible refine gate_callee (f := 16) rfl ?_); refine goesL_ (some 16) rfl rfl Try.func16 (by kernel_rfl) rfl #[.agg #[.slice A0_0 l0_0.length c0_0, .slice A0_1 l0_1.length c0_1, .int .i64 a0_2, .int .i64 a0_3, .int .i64 a0_4]] rfl (by (try simp only [List.map_toArray, List.map_cons, List.map_nil]); first | done | rfl | (simp only [List.length_drop, List.length_take]; rfl)) ?_; (with_reducible refine (standbyref56_Check.calls k _ _ l0_0 _ _ l0_1 a0_2 a0_3 a0_4 t184 _ ?side1 ?side2 ?side3 ?side4 A2.out).mono ?_); (case side1 => exact qC HR0_0.out HB.out); (case side2 => exact HC0_0.out); (case side3 => exact qC HR0_1.out HB.out); (case side4 => exact HC0_1.out); rintro e w9 ⟨rfl, hb⟩; refine ⟨_, rfl, ?_⟩; have n0_ := Aside0.mk (blk_below (qB BK182.out) hb); have n1_ := Aside0.mk (blk_below (qB BK183.out) hb); have n2_ := Aside0.mk (below_step (qW HB.out) hb); clear BK182 BK183 HB; have BK182 := n0_; have BK183 := n1_; have HB := n2_; clear n0_ n1_ n2_; (try clear hb); (try clear hb2); (try clear hk); (try clear hi)) | ((with_reducible refine gate_dst (N := 5) rfl ?_); refine box_event ?hg (N := 5) ?hd (cs := #[.slice none 0 0, .slice none 0 0, .slice none 0 0, .slice none 0 0, .int .i64 0]) (t := 28) ?hr ?_; (case hd => rfl); (case hg => rfl); (case hr => first | (go_simp; done) | (go_simp; rfl)); intro gb185 hg w10 hbox hb; have n0_ := Aside0.mk (blk_below (qB BK182.out) hb); have n1_ := Aside0.mk (blk_below (qB BK183.out) hb); have n2_ := Aside0.mk (below_step (qW HB.out) hb); have n3_ := Aside0.mk (hbox); have n4_ := Aside0.mk ((by rw [hg]; exact (below_size (qW HB.out)) : w.heap.size ≤ gb185)); have n5_ := Aside0.mk ((by rw [hg]; exact (below_size (qW HB.out)) : w.heap.size ≤ gb185)); have n6_ := Aside0.mk ((by rw [hg]; exact Nat.ne_of_lt (blk_lt (qB BK182.out)) : gb182 ≠ gb185)); have n7_ := Aside0.mk ((by rw [hg]; exact Nat.ne_of_gt (blk_lt (qB BK182.out)) : gb185 ≠ gb182)); have n8_ := Aside0.mk ((by rw [hg]; exact Nat.ne_of_lt (blk_lt (qB BK183.out)) : gb183 ≠ gb185)); have n9_ := Aside0.mk ((by rw [hg]; exact Nat.ne_of_gt (blk_lt (qB BK183.out)) : gb185 ≠ gb183)); clear BK182 BK183 HB; have BK182 := n0_; have BK183 := n1_; have HB := n2_; have BK185 := n3_; have GW185 := n4_; have GE185 := n5_; have NB182_185 := n6_; have NB185_182 := n7_; have NB183_185 := n8_; have NB185_183 := n9_; clear n0_ n1_ n2_ n3_ n4_ n5_ n6_ n7_ n8_ n9_ hb hbox hg; have hnb11 := NB182_185.out; have hnc11 := NB185_182.out; have hcz12_0 : w10.cell? ⟨gb182, 0, none⟩ = some (.slice A0_0 l0_0.length c0_0) := (blk_cell BK182.out 0).trans rfl; have hcz12_1 : w10.cell? ⟨gb182, 1, none⟩ = some (.slice A0_1 l0_1.length c0_1) := (blk_cell BK182.out 1).trans rfl; have hcz12_2 : w10.cell? ⟨gb182, 2, none⟩ = some (.int .i64 a0_2) := (blk_cell BK182.out 2).trans rfl; have hcz12_3 : w10.cell? ⟨gb182, 3, none⟩ = some (.int .i64 a0_3) := (blk_cell BK182.out 3).trans rfl; have hcz12_4 : w10.cell? ⟨gb182, 4, none⟩ = some (.int .i64 a0_4) := (blk_cell BK182.out 4).trans rfl; have hfz12_0 := blk_frozen BK182.out 0; have hfz12_1 := blk_frozen BK182.out 1; have hfz12_2 := blk_frozen BK182.out 2; have hfz12_3 := blk_frozen BK182.out 3; have hfz12_4 := blk_frozen BK182.out 4))
  go_loopg [7, 8, 9] k (fun kq v7 v8 v9 w' => ∃ (x7_1 : Int) (x8_1 : Int) (x9_1 : Int) (x184004_1 : Int) (x186000_1 : List Int) (x186001_1 : List Int) (x186002_1 : List Int) (x186003_1 : List Int) (x186004_1 : Int) (u186000 : Value) (u186001 : Value) (u186002 : Value) (u186003 : Value), v7 = .int .i64 x7_1 ∧ v8 = .int .i64 x8_1 ∧ v9 = .int .i64 x9_1 ∧ Aside0 (standbyref56_Plan.l0 kq (wrap64 (Int.tdiv (wrap64 ((wrap64 ((l0_0.length : Int) + a0_2)) - 1)) a0_2)) x7_1 x8_1 x9_1 l0_0 l0_1 a0_2 a0_3 a0_4 x186000_1 x186001_1 x186002_1 x186003_1 x186004_1 = some (r1, r2, r3, r4, r5, r6)) ∧ Aside0 (kq ≤ k) ∧ Aside0 (Kd.R (Kd.int .i64) 3 w' w.heap.size (fun k_ => some k_ ≠ (u186001 : Value).ownBlock ∧ some k_ ≠ (u186002 : Value).ownBlock ∧ some k_ ≠ (u186003 : Value).ownBlock) u186000 x186000_1) ∧ Aside0 (Kd.R (Kd.int .i64) 3 w' w.heap.size (fun k_ => some k_ ≠ (u186000 : Value).ownBlock ∧ some k_ ≠ (u186002 : Value).ownBlock ∧ some k_ ≠ (u186003 : Value).ownBlock) u186001 x186001_1) ∧ Aside0 (Kd.R (Kd.int .i64) 3 w' w.heap.size (fun k_ => some k_ ≠ (u186000 : Value).ownBlock ∧ some k_ ≠ (u186001 : Value).ownBlock ∧ some k_ ≠ (u186003 : Value).ownBlock) u186002 x186002_1) ∧ Aside0 (Kd.R (Kd.int .i64) 3 w' w.heap.size (fun k_ => some k_ ≠ (u186000 : Value).ownBlock ∧ some k_ ≠ (u186001 : Value).ownBlock ∧ some k_ ≠ (u186002 : Value).ownBlock) u186003 x186003_1) ∧ Aside0 (w'.heap[gb182]? = some (.cells #[(.slice A0_0 l0_0.length c0_0), (.slice A0_1 l0_1.length c0_1), .int .i64 a0_2, .int .i64 a0_3, .int .i64 a0_4] 24 (0, 0))) ∧ Aside0 (w'.heap[gb183]? = some (.cells #[(.slice none 0 0), (.slice none 0 0), (.slice none 0 0), (.slice none 0 0), .int .i64 x184004_1] 28 (0, 0))) ∧ Aside0 (w'.heap[gb185]? = some (.cells #[u186000, u186001, u186002, u186003, .int .i64 x186004_1] 28 (0, 0))) ∧ Aside0 (Below w.heap.size w w'))
  case atStart => exact ⟨(0), (0), (0), (0), (([] : List Int)), (([] : List Int)), (([] : List Int)), (([] : List Int)), (0), (.slice none 0 0), (.slice none 0 0), (.slice none 0 0), (.slice none 0 0), (by first | rfl | (simp; done) | (simp [*]; done)), (by first | rfl | (simp; done) | (simp [*]; done)), (by first | rfl | (simp; done) | (simp [*]; done)), H', ⟨Nat.le_refl _⟩, ⟨by first | exact Kd.R_nil _ _ _ _ _ | exact Kd.N_nil _ _ _ _ _ | exact Kd.V_nil _ _ _ _ _ | exact Kd.Q_nil _ _ _ _ _ | exact Kd.S_nil _ _ _ _ _⟩, ⟨by first | exact Kd.R_nil _ _ _ _ _ | exact Kd.N_nil _ _ _ _ _ | exact Kd.V_nil _ _ _ _ _ | exact Kd.Q_nil _ _ _ _ _ | exact Kd.S_nil _ _ _ _ _⟩, ⟨by first | exact Kd.R_nil _ _ _ _ _ | exact Kd.N_nil _ _ _ _ _ | exact Kd.V_nil _ _ _ _ _ | exact Kd.Q_nil _ _ _ _ _ | exact Kd.S_nil _ _ _ _ _⟩, ⟨by first | exact Kd.R_nil _ _ _ _ _ | exact Kd.N_nil _ _ _ _ _ | exact Kd.V_nil _ _ _ _ _ | exact Kd.Q_nil _ _ _ _ _ | exact Kd.S_nil _ _ _ _ _⟩, ⟨by exact qB BK182.out⟩, ⟨by exact qB BK183.out⟩, ⟨by exact qB BK185.out⟩, ⟨by repeat (first | (with_reducible first | exact HB.out | apply below_alloc | apply pw_below_drewN | apply below_drew1 | refine below_set ?_ GE182.out | refine below_set ?_ GE183.out | refine below_set ?_ GE185.out) | exact HB.out)⟩⟩
  case round =>
   clear H'
   try clear c1
   try clear p2
   try clear c3
   try clear c3b0
   try clear c3b1
   try clear c4
   try clear c4b0
   try clear c4b1
   try clear p6
   try clear c7
   try clear c11
   try clear hcz12_0
   try clear hcz12_1
   try clear hcz12_2
   try clear hcz12_3
   try clear hcz12_4
   try clear hcz8_0
   try clear hcz8_1
   try clear hcz8_2
   try clear hcz8_3
   try clear hcz8_4
   try clear hfz12_0
   try clear hfz12_1
   try clear hfz12_2
   try clear hfz12_3
   try clear hfz12_4
   try clear hfz8_0
   try clear hfz8_1
   try clear hfz8_2
   try clear hfz8_3
   try clear hfz8_4
   obtain ⟨x7_1, x8_1, x9_1, x184004_1, x186000_1, x186001_1, x186002_1, x186003_1, x186004_1, u186000, u186001, u186002, u186003, rfl, rfl, rfl, HA, HK1, HO_186000, HO_186001, HO_186002, HO_186003, BK182, BK183, BK185, HB⟩ := hrel
   cases gk with
   | zero => exact absurd HA.out (by simp [standbyref56_Plan.l0])
   | succ k1 =>
    have H := HA.out
    clear HA
    simp only [standbyref56_Plan.l0] at H
    by_cases c13 : x9_1 < (wrap64 (Int.tdiv (wrap64 ((wrap64 ((l0_0.length : Int) + a0_2)) - 1)) a0_2))
    case neg =>
     rw [if_neg c13] at H
     have c13b0 : decide (x9_1 < (wrap64 (Int.tdiv (wrap64 ((wrap64 ((l0_0.length : Int) + a0_2)) - 1)) a0_2))) = false := decide_eq_false c13
     clear c13
     by_cases c89 : (wrap64 (Int.tdiv (wrap64 ((wrap64 ((l0_0.length : Int) + a0_2)) - 1)) a0_2)) > 0
     case neg =>
      rw [if_neg c89] at H
      have c89b0 : decide (0 < (wrap64 (Int.tdiv (wrap64 ((wrap64 ((l0_0.length : Int) + a0_2)) - 1)) a0_2))) = false := decide_eq_false c89
      clear c89
      simp only [Option.some.injEq, Prod.mk.injEq] at H
      obtain ⟨rfl, rfl, rfl, rfl, rfl, rfl⟩ := H
      have hnb101 := NB185_182.out
      have hnc101 := NB182_185.out
      have hnb102 := NB185_183.out
      have hnc102 := NB183_185.out
      have hcz103_0 : wr.cell? ⟨gb185, 0, none⟩ = some (u186000) := (blk_cell BK185.out 0).trans rfl
      have hcz103_1 : wr.cell? ⟨gb185, 1, none⟩ = some (u186001) := (blk_cell BK185.out 1).trans rfl
      have hcz103_2 : wr.cell? ⟨gb185, 2, none⟩ = some (u186002) := (blk_cell BK185.out 2).trans rfl
      have hcz103_3 : wr.cell? ⟨gb185, 3, none⟩ = some (u186003) := (blk_cell BK185.out 3).trans rfl
      have hcz103_4 : wr.cell? ⟨gb185, 4, none⟩ = some (.int .i64 x186004_1) := (blk_cell BK185.out 4).trans rfl
      have hfz103_0 := blk_frozen BK185.out 0
      have hfz103_1 := blk_frozen BK185.out 1
      have hfz103_2 := blk_frozen BK185.out 2
      have hfz103_3 := blk_frozen BK185.out 3
      have hfz103_4 := blk_frozen BK185.out 4
      obtain ⟨Ao104, co104, eo104⟩ := Kd.R_slice HO_186000.out
      subst eo104
      have hnb105 := NB183_182.out
      have hnc105 := NB182_183.out
      have hcz106_0 : wr.cell? ⟨gb183, 0, none⟩ = some (.slice none 0 0) := (blk_cell BK183.out 0).trans rfl
      have hcz106_1 : wr.cell? ⟨gb183, 1, none⟩ = some (.slice none 0 0) := (blk_cell BK183.out 1).trans rfl
      have hcz106_2 : wr.cell? ⟨gb183, 2, none⟩ = some (.slice none 0 0) := (blk_cell BK183.out 2).trans rfl
      have hcz106_3 : wr.cell? ⟨gb183, 3, none⟩ = some (.slice none 0 0) := (blk_cell BK183.out 3).trans rfl
      have hcz106_4 : wr.cell? ⟨gb183, 4, none⟩ = some (.int .i64 x184004_1) := (blk_cell BK183.out 4).trans rfl
      have hfz106_0 := blk_frozen BK183.out 0
      have hfz106_1 := blk_frozen BK183.out 1
      have hfz106_2 := blk_frozen BK183.out 2
      have hfz106_3 := blk_frozen BK183.out 3
      have hfz106_4 := blk_frozen BK183.out 4
      obtain ⟨Ao107, co107, eo107⟩ := Kd.R_slice HO_186001.out
      subst eo107
      obtain ⟨Ao108, co108, eo108⟩ := Kd.R_slice HO_186002.out
      subst eo108
      obtain ⟨Ao109, co109, eo109⟩ := Kd.R_slice HO_186003.out
      subst eo109
      go_wp2
      refine bodyPost_ret (results_ct rfl _ _ gb183 28 #[.slice Ao104 x186000_1.length co104, .slice Ao107 x186001_1.length co107, .slice Ao108 x186002_1.length co108, .slice Ao109 x186003_1.length co109, .int .i64 x186004_1] (0, 0) _ rfl (by (with_reducible repeat (first | refine blk_drewN ?_ _ | refine blk_drew ?_ | refine blk_alloc ?_ _)); refine blk_put (cs := #[.slice Ao104 x186000_1.length co104, .slice Ao107 x186001_1.length co107, .slice Ao108 x186002_1.length co108, .slice Ao109 x186003_1.length co109, .int .i64 x184004_1]) ?_ 4 _ rfl; (with_reducible repeat (first | refine blk_drewN ?_ _ | refine blk_drew ?_ | refine blk_alloc ?_ _)); refine blk_put (cs := #[.slice Ao104 x186000_1.length co104, .slice Ao107 x186001_1.length co107, .slice Ao108 x186002_1.length co108, .slice none 0 0, .int .i64 x184004_1]) ?_ 3 _ rfl; (with_reducible repeat (first | refine blk_drewN ?_ _ | refine blk_drew ?_ | refine blk_alloc ?_ _)); refine blk_put (cs := #[.slice Ao104 x186000_1.length co104, .slice Ao107 x186001_1.length co107, .slice none 0 0, .slice none 0 0, .int .i64 x184004_1]) ?_ 2 _ rfl; (with_reducible repeat (first | refine blk_drewN ?_ _ | refine blk_drew ?_ | refine blk_alloc ?_ _)); refine blk_put (cs := #[.slice Ao104 x186000_1.length co104, .slice none 0 0, .slice none 0 0, .slice none 0 0, .int .i64 x184004_1]) ?_ 1 _ rfl; (with_reducible repeat (first | refine blk_drewN ?_ _ | refine blk_drew ?_ | refine blk_alloc ?_ _)); refine blk_put (cs := #[.slice none 0 0, .slice none 0 0, .slice none 0 0, .slice none 0 0, .int .i64 x184004_1]) ?_ 0 _ rfl; exact qB BK183.out) Try.underlying28 rfl (by kernel_rfl)) rfl ?_
      exact ⟨_, _, _, _, by first | rfl | (simp [errW_none, errW_some] <;> rfl) | (simp [*, errW_none, errW_some] <;> rfl), by exact qR (Kd.R_mono (Kd.R_far (p := ⟨gb183, 4, none⟩) (Kd.R_far (p := ⟨gb183, 3, none⟩) (Kd.R_far (p := ⟨gb183, 2, none⟩) (Kd.R_far (p := ⟨gb183, 1, none⟩) (Kd.R_far (p := ⟨gb183, 0, none⟩) (Kd.R_types HO_186000.out BK183.out (by decide)) (fun _ hk => hk.2) (.slice Ao104 x186000_1.length co104)) (fun _ hk => hk.2) (.slice Ao107 x186001_1.length co107)) (fun _ hk => hk.2) (.slice Ao108 x186002_1.length co108)) (fun _ hk => hk.2) (.slice Ao109 x186003_1.length co109)) (fun _ hk => hk.2) (.int .i64 x186004_1)) (fun _ hk => ⟨hk.1.1, ⟨hk.1.2.1, hk.1.2.2⟩⟩)), by exact qR (Kd.R_mono (Kd.R_far (p := ⟨gb183, 4, none⟩) (Kd.R_far (p := ⟨gb183, 3, none⟩) (Kd.R_far (p := ⟨gb183, 2, none⟩) (Kd.R_far (p := ⟨gb183, 1, none⟩) (Kd.R_far (p := ⟨gb183, 0, none⟩) (Kd.R_types HO_186001.out BK183.out (by decide)) (fun _ hk => hk.2) (.slice Ao104 x186000_1.length co104)) (fun _ hk => hk.2) (.slice Ao107 x186001_1.length co107)) (fun _ hk => hk.2) (.slice Ao108 x186002_1.length co108)) (fun _ hk => hk.2) (.slice Ao109 x186003_1.length co109)) (fun _ hk => hk.2) (.int .i64 x186004_1)) (fun _ hk => ⟨hk.1.1, ⟨hk.1.2.1, hk.1.2.2⟩⟩)), by exact qR (Kd.R_mono (Kd.R_far (p := ⟨gb183, 4, none⟩) (Kd.R_far (p := ⟨gb183, 3, none⟩) (Kd.R_far (p := ⟨gb183, 2, none⟩) (Kd.R_far (p := ⟨gb183, 1, none⟩) (Kd.R_far (p := ⟨gb183, 0, none⟩) (Kd.R_types HO_186002.out BK183.out (by decide)) (fun _ hk => hk.2) (.slice Ao104 x186000_1.length co104)) (fun _ hk => hk.2) (.slice Ao107 x186001_1.length co107)) (fun _ hk => hk.2) (.slice Ao108 x186002_1.length co108)) (fun _ hk => hk.2) (.slice Ao109 x186003_1.length co109)) (fun _ hk => hk.2) (.int .i64 x186004_1)) (fun _ hk => ⟨hk.1.1, ⟨hk.1.2.1, hk.1.2.2⟩⟩)), by exact qR (Kd.R_mono (Kd.R_far (p := ⟨gb183, 4, none⟩) (Kd.R_far (p := ⟨gb183, 3, none⟩) (Kd.R_far (p := ⟨gb183, 2, none⟩) (Kd.R_far (p := ⟨gb183, 1, none⟩) (Kd.R_far (p := ⟨gb183, 0, none⟩) (Kd.R_types HO_186003.out BK183.out (by decide)) (fun _ hk => hk.2) (.slice Ao104 x186000_1.length co104)) (fun _ hk => hk.2) (.slice Ao107 x186001_1.length co107)) (fun _ hk => hk.2) (.slice Ao108 x186002_1.length co108)) (fun _ hk => hk.2) (.slice Ao109 x186003_1.length co109)) (fun _ hk => hk.2) (.int .i64 x186004_1)) (fun _ hk => ⟨hk.1.1, ⟨hk.1.2.1, hk.1.2.2⟩⟩)), by repeat (first | (with_reducible first | exact HB.out | apply below_alloc | apply pw_below_drewN | apply below_drew1 | refine below_set ?_ GE182.out | refine below_set ?_ GE183.out | refine below_set ?_ GE185.out) | exact HB.out)⟩
     rw [if_pos c89] at H
     have c89b0 : decide (0 < (wrap64 (Int.tdiv (wrap64 ((wrap64 ((l0_0.length : Int) + a0_2)) - 1)) a0_2))) = true := decide_eq_true c89
     clear c89
     obtain ⟨ji90, hji90⟩ : ∃ j_ : Int, (mx x186004_1 (wrap64 ((wrap64 ((wrap64 (x7_1 + a0_3)) + a0_4)) - x8_1))) = j_ := ⟨_, rfl⟩
     replace H : (some (x186000_1, x186001_1, x186002_1, x186003_1, ji90, 0)) = some (r1, r2, r3, r4, r5, r6) := by first | (rw [hji90] at H; exact H) | (simp only [hji90] at H ⊢; exact H)
     have hji90_ : (if x186004_1 < (wrap64 ((wrap64 ((wrap64 (x7_1 + a0_3)) + a0_4)) - x8_1)) then (wrap64 ((wrap64 ((wrap64 (x7_1 + a0_3)) + a0_4)) - x8_1)) else x186004_1) = ji90 := hji90
     simp only [Option.some.injEq, Prod.mk.injEq] at H
     obtain ⟨rfl, rfl, rfl, rfl, rfl, rfl⟩ := H
     have hnb91 := NB185_182.out
     have hnc91 := NB182_185.out
     have hnb92 := NB185_183.out
     have hnc92 := NB183_185.out
     have hcz93_0 : wr.cell? ⟨gb185, 0, none⟩ = some (u186000) := (blk_cell BK185.out 0).trans rfl
     have hcz93_1 : wr.cell? ⟨gb185, 1, none⟩ = some (u186001) := (blk_cell BK185.out 1).trans rfl
     have hcz93_2 : wr.cell? ⟨gb185, 2, none⟩ = some (u186002) := (blk_cell BK185.out 2).trans rfl
     have hcz93_3 : wr.cell? ⟨gb185, 3, none⟩ = some (u186003) := (blk_cell BK185.out 3).trans rfl
     have hcz93_4 : wr.cell? ⟨gb185, 4, none⟩ = some (.int .i64 x186004_1) := (blk_cell BK185.out 4).trans rfl
     have hfz93_0 := blk_frozen BK185.out 0
     have hfz93_1 := blk_frozen BK185.out 1
     have hfz93_2 := blk_frozen BK185.out 2
     have hfz93_3 := blk_frozen BK185.out 3
     have hfz93_4 := blk_frozen BK185.out 4
     have hnb94 := NB182_183.out
     have hnc94 := NB183_182.out
     have hcz95_0 : wr.cell? ⟨gb182, 0, none⟩ = some (.slice A0_0 l0_0.length c0_0) := (blk_cell BK182.out 0).trans rfl
     have hcz95_1 : wr.cell? ⟨gb182, 1, none⟩ = some (.slice A0_1 l0_1.length c0_1) := (blk_cell BK182.out 1).trans rfl
     have hcz95_2 : wr.cell? ⟨gb182, 2, none⟩ = some (.int .i64 a0_2) := (blk_cell BK182.out 2).trans rfl
     have hcz95_3 : wr.cell? ⟨gb182, 3, none⟩ = some (.int .i64 a0_3) := (blk_cell BK182.out 3).trans rfl
     have hcz95_4 : wr.cell? ⟨gb182, 4, none⟩ = some (.int .i64 a0_4) := (blk_cell BK182.out 4).trans rfl
     have hfz95_0 := blk_frozen BK182.out 0
     have hfz95_1 := blk_frozen BK182.out 1
     have hfz95_2 := blk_frozen BK182.out 2
     have hfz95_3 := blk_frozen BK182.out 3
     have hfz95_4 := blk_frozen BK182.out 4
     obtain ⟨Ao96, co96, eo96⟩ := Kd.R_slice HO_186000.out
     subst eo96
     have hcz97_0 : wr.cell? ⟨gb183, 0, none⟩ = some (.slice none 0 0) := (blk_cell BK183.out 0).trans rfl
     have hcz97_1 : wr.cell? ⟨gb183, 1, none⟩ = some (.slice none 0 0) := (blk_cell BK183.out 1).trans rfl
     have hcz97_2 : wr.cell? ⟨gb183, 2, none⟩ = some (.slice none 0 0) := (blk_cell BK183.out 2).trans rfl
     have hcz97_3 : wr.cell? ⟨gb183, 3, none⟩ = some (.slice none 0 0) := (blk_cell BK183.out 3).trans rfl
     have hcz97_4 : wr.cell? ⟨gb183, 4, none⟩ = some (.int .i64 x184004_1) := (blk_cell BK183.out 4).trans rfl
     have hfz97_0 := blk_frozen BK183.out 0
     have hfz97_1 := blk_frozen BK183.out 1
     have hfz97_2 := blk_frozen BK183.out 2
     have hfz97_3 := blk_frozen BK183.out 3
     have hfz97_4 := blk_frozen BK183.out 4
     obtain ⟨Ao98, co98, eo98⟩ := Kd.R_slice HO_186001.out
     subst eo98
     obtain ⟨Ao99, co99, eo99⟩ := Kd.R_slice HO_186002.out
     subst eo99
     obtain ⟨Ao100, co100, eo100⟩ := Kd.R_slice HO_186003.out
     subst eo100
     go_wp2
     refine bodyPost_ret (results_ct rfl _ _ gb183 28 #[.slice Ao96 x186000_1.length co96, .slice Ao98 x186001_1.length co98, .slice Ao99 x186002_1.length co99, .slice Ao100 x186003_1.length co100, .int .i64 ji90] (0, 0) _ rfl (by (with_reducible repeat (first | refine blk_drewN ?_ _ | refine blk_drew ?_ | refine blk_alloc ?_ _)); refine blk_put (cs := #[.slice Ao96 x186000_1.length co96, .slice Ao98 x186001_1.length co98, .slice Ao99 x186002_1.length co99, .slice Ao100 x186003_1.length co100, .int .i64 x184004_1]) ?_ 4 _ rfl; (with_reducible repeat (first | refine blk_drewN ?_ _ | refine blk_drew ?_ | refine blk_alloc ?_ _)); refine blk_put (cs := #[.slice Ao96 x186000_1.length co96, .slice Ao98 x186001_1.length co98, .slice Ao99 x186002_1.length co99, .slice none 0 0, .int .i64 x184004_1]) ?_ 3 _ rfl; (with_reducible repeat (first | refine blk_drewN ?_ _ | refine blk_drew ?_ | refine blk_alloc ?_ _)); refine blk_put (cs := #[.slice Ao96 x186000_1.length co96, .slice Ao98 x186001_1.length co98, .slice none 0 0, .slice none 0 0, .int .i64 x184004_1]) ?_ 2 _ rfl; (with_reducible repeat (first | refine blk_drewN ?_ _ | refine blk_drew ?_ | refine blk_alloc ?_ _)); refine blk_put (cs := #[.slice Ao96 x186000_1.length co96, .slice none 0 0, .slice none 0 0, .slice none 0 0, .int .i64 x184004_1]) ?_ 1 _ rfl; (with_reducible repeat (first | refine blk_drewN ?_ _ | refine blk_drew ?_ | refine blk_alloc ?_ _)); refine blk_put (cs := #[.slice none 0 0, .slice none 0 0, .slice none 0 0, .slice none 0 0, .int .i64 x184004_1]) ?_ 0 _ rfl; (with_reducible repeat (first | refine blk_drewN ?_ _ | refine blk_drew ?_ | refine blk_alloc ?_ _)); refine blk_far ?_ NB183_185.out _; exact qB BK183.out) Try.underlying28 rfl (by kernel_rfl)) rfl ?_
     exact ⟨_, _, _, _, by first | rfl | (simp [errW_none, errW_some] <;> rfl) | (simp only [← hji90]; first | rfl | (simp [errW_none, errW_some] <;> rfl)) | (simp [*, errW_none, errW_some] <;> rfl), by exact qR (Kd.R_mono (Kd.R_far (p := ⟨gb183, 4, none⟩) (Kd.R_far (p := ⟨gb183, 3, none⟩) (Kd.R_far (p := ⟨gb183, 2, none⟩) (Kd.R_far (p := ⟨gb183, 1, none⟩) (Kd.R_far (p := ⟨gb183, 0, none⟩) (Kd.R_far (p := ⟨gb185, 4, none⟩) (Kd.R_types (Kd.R_types HO_186000.out BK185.out (by decide)) BK183.out (by decide)) (fun _ hk => hk.1.2) (.int .i64 ji90)) (fun _ hk => hk.2) (.slice Ao96 x186000_1.length co96)) (fun _ hk => hk.2) (.slice Ao98 x186001_1.length co98)) (fun _ hk => hk.2) (.slice Ao99 x186002_1.length co99)) (fun _ hk => hk.2) (.slice Ao100 x186003_1.length co100)) (fun _ hk => hk.2) (.int .i64 ji90)) (fun _ hk => ⟨hk.1.1.1, ⟨hk.1.1.2.1, hk.1.1.2.2⟩⟩)), by exact qR (Kd.R_mono (Kd.R_far (p := ⟨gb183, 4, none⟩) (Kd.R_far (p := ⟨gb183, 3, none⟩) (Kd.R_far (p := ⟨gb183, 2, none⟩) (Kd.R_far (p := ⟨gb183, 1, none⟩) (Kd.R_far (p := ⟨gb183, 0, none⟩) (Kd.R_far (p := ⟨gb185, 4, none⟩) (Kd.R_types (Kd.R_types HO_186001.out BK185.out (by decide)) BK183.out (by decide)) (fun _ hk => hk.1.2) (.int .i64 ji90)) (fun _ hk => hk.2) (.slice Ao96 x186000_1.length co96)) (fun _ hk => hk.2) (.slice Ao98 x186001_1.length co98)) (fun _ hk => hk.2) (.slice Ao99 x186002_1.length co99)) (fun _ hk => hk.2) (.slice Ao100 x186003_1.length co100)) (fun _ hk => hk.2) (.int .i64 ji90)) (fun _ hk => ⟨hk.1.1.1, ⟨hk.1.1.2.1, hk.1.1.2.2⟩⟩)), by exact qR (Kd.R_mono (Kd.R_far (p := ⟨gb183, 4, none⟩) (Kd.R_far (p := ⟨gb183, 3, none⟩) (Kd.R_far (p := ⟨gb183, 2, none⟩) (Kd.R_far (p := ⟨gb183, 1, none⟩) (Kd.R_far (p := ⟨gb183, 0, none⟩) (Kd.R_far (p := ⟨gb185, 4, none⟩) (Kd.R_types (Kd.R_types HO_186002.out BK185.out (by decide)) BK183.out (by decide)) (fun _ hk => hk.1.2) (.int .i64 ji90)) (fun _ hk => hk.2) (.slice Ao96 x186000_1.length co96)) (fun _ hk => hk.2) (.slice Ao98 x186001_1.length co98)) (fun _ hk => hk.2) (.slice Ao99 x186002_1.length co99)) (fun _ hk => hk.2) (.slice Ao100 x186003_1.length co100)) (fun _ hk => hk.2) (.int .i64 ji90)) (fun _ hk => ⟨hk.1.1.1, ⟨hk.1.1.2.1, hk.1.1.2.2⟩⟩)), by exact qR (Kd.R_mono (Kd.R_far (p := ⟨gb183, 4, none⟩) (Kd.R_far (p := ⟨gb183, 3, none⟩) (Kd.R_far (p := ⟨gb183, 2, none⟩) (Kd.R_far (p := ⟨gb183, 1, none⟩) (Kd.R_far (p := ⟨gb183, 0, none⟩) (Kd.R_far (p := ⟨gb185, 4, none⟩) (Kd.R_types (Kd.R_types HO_186003.out BK185.out (by decide)) BK183.out (by decide)) (fun _ hk => hk.1.2) (.int .i64 ji90)) (fun _ hk => hk.2) (.slice Ao96 x186000_1.length co96)) (fun _ hk => hk.2) (.slice Ao98 x186001_1.length co98)) (fun _ hk => hk.2) (.slice Ao99 x186002_1.length co99)) (fun _ hk => hk.2) (.slice Ao100 x186003_1.length co100)) (fun _ hk => hk.2) (.int .i64 ji90)) (fun _ hk => ⟨hk.1.1.1, ⟨hk.1.1.2.1, hk.1.1.2.2⟩⟩)), by repeat (first | (with_reducible first | exact HB.out | apply below_alloc | apply pw_below_drewN | apply below_drew1 | refine below_set ?_ GE182.out | refine below_set ?_ GE183.out | refine below_set ?_ GE185.out) | exact HB.out)⟩
    rw [if_pos c13] at H
    have c13b0 : decide (x9_1 < (wrap64 (Int.tdiv (wrap64 ((wrap64 ((l0_0.length : Int) + a0_2)) - 1)) a0_2))) = true := decide_eq_true c13
    clear c13
    obtain ⟨ji14, hji14⟩ : ∃ j_ : Int, (mx (wrap64 ((wrap64 (x9_1 + 1)) * a0_2)) x7_1) = j_ := ⟨_, rfl⟩
    replace H : ((standbyref56_Size.f k1 l0_0 l0_1 a0_2 a0_3 a0_4 x9_1).bind fun t186 => ((standbyref56_finish.f k1 l0_0 l0_1 a0_2 a0_3 a0_4 (ji14) t186).bind fun bt187 => (if bt187.2 = true then ((some (([wrap64 ((wrap64 (x9_1 + 1)) * a0_2)] : List Int) : List Int)).bind fun y189 => (if x186000_1.length + y189.length < 17592186044416 then ((some (([ji14] : List Int) : List Int)).bind fun y195 => (if x186001_1.length + y195.length < 17592186044416 then (standbyref56_Plan.j1 k1 (wrap64 (Int.tdiv (wrap64 ((wrap64 ((l0_0.length : Int) + a0_2)) - 1)) a0_2)) bt187.1 x8_1 x9_1 (wrap64 ((wrap64 (x9_1 + 1)) * a0_2)) (wrap64 ((wrap64 (bt187.1 + a0_3)) + a0_4)) l0_0 l0_1 a0_2 a0_3 a0_4 (x186000_1 ++ y189) (x186001_1 ++ y195) x186002_1 x186003_1 x186004_1) else (none))) else (none))) else (some (([] : List Int), ([] : List Int), ([] : List Int), ([] : List Int), 0, 21))))) = some (r1, r2, r3, r4, r5, r6) := by first | (rw [hji14] at H; exact H) | (simp only [hji14] at H ⊢; exact H)
    have hji14_ : (if (wrap64 ((wrap64 (x9_1 + 1)) * a0_2)) < x7_1 then x7_1 else (wrap64 ((wrap64 (x9_1 + 1)) * a0_2))) = ji14 := hji14
    replace H := Option.bind_eq_some_iff.mp H
    obtain ⟨t186, A150, H⟩ := H
    replace H : ((standbyref56_finish.f k1 l0_0 l0_1 a0_2 a0_3 a0_4 (ji14) t186).bind fun bt187 => (if bt187.2 = true then ((some (([wrap64 ((wrap64 (x9_1 + 1)) * a0_2)] : List Int) : List Int)).bind fun y189 => (if x186000_1.length + y189.length < 17592186044416 then ((some (([ji14] : List Int) : List Int)).bind fun y195 => (if x186001_1.length + y195.length < 17592186044416 then (standbyref56_Plan.j1 k1 (wrap64 (Int.tdiv (wrap64 ((wrap64 ((l0_0.length : Int) + a0_2)) - 1)) a0_2)) bt187.1 x8_1 x9_1 (wrap64 ((wrap64 (x9_1 + 1)) * a0_2)) (wrap64 ((wrap64 (bt187.1 + a0_3)) + a0_4)) l0_0 l0_1 a0_2 a0_3 a0_4 (x186000_1 ++ y189) (x186001_1 ++ y195) x186002_1 x186003_1 x186004_1) else (none))) else (none))) else (some (([] : List Int), ([] : List Int), ([] : List Int), ([] : List Int), 0, 21)))) = some (r1, r2, r3, r4, r5, r6) := H
    have A15 := Aside0.mk A150
    clear A150
    replace H := Option.bind_eq_some_iff.mp H
    obtain ⟨⟨t187, t188⟩, A160, H⟩ := H
    replace H : (if t188 = true then ((some (([wrap64 ((wrap64 (x9_1 + 1)) * a0_2)] : List Int) : List Int)).bind fun y189 => (if x186000_1.length + y189.length < 17592186044416 then ((some (([ji14] : List Int) : List Int)).bind fun y195 => (if x186001_1.length + y195.length < 17592186044416 then (standbyref56_Plan.j1 k1 (wrap64 (Int.tdiv (wrap64 ((wrap64 ((l0_0.length : Int) + a0_2)) - 1)) a0_2)) t187 x8_1 x9_1 (wrap64 ((wrap64 (x9_1 + 1)) * a0_2)) (wrap64 ((wrap64 (t187 + a0_3)) + a0_4)) l0_0 l0_1 a0_2 a0_3 a0_4 (x186000_1 ++ y189) (x186001_1 ++ y195) x186002_1 x186003_1 x186004_1) else (none))) else (none))) else (some (([] : List Int), ([] : List Int), ([] : List Int), ([] : List Int), 0, 21))) = some (r1, r2, r3, r4, r5, r6) := H
    have A16 := Aside0.mk A160
    clear A160
    by_cases c17 : t188 = true
    case neg =>
     replace c17 := Bool.eq_false_iff.mpr c17
     subst c17
     have H1 : (some (([] : List Int), ([] : List Int), ([] : List Int), ([] : List Int), 0, 21)) = some (r1, r2, r3, r4, r5, r6) := by rw [if_neg (show ¬ (false = true) by decide)] at H; exact H
     clear H
     have H := H1
     clear H1
     simp only [Option.some.injEq, Prod.mk.injEq] at H
     obtain ⟨rfl, rfl, rfl, rfl, rfl, rfl⟩ := H
     have hnb81 := NB182_183.out
     have hnc81 := NB183_182.out
     have hnb82 := NB182_185.out
     have hnc82 := NB185_182.out
     have hcz83_0 : wr.cell? ⟨gb182, 0, none⟩ = some (.slice A0_0 l0_0.length c0_0) := (blk_cell BK182.out 0).trans rfl
     have hcz83_1 : wr.cell? ⟨gb182, 1, none⟩ = some (.slice A0_1 l0_1.length c0_1) := (blk_cell BK182.out 1).trans rfl
     have hcz83_2 : wr.cell? ⟨gb182, 2, none⟩ = some (.int .i64 a0_2) := (blk_cell BK182.out 2).trans rfl
     have hcz83_3 : wr.cell? ⟨gb182, 3, none⟩ = some (.int .i64 a0_3) := (blk_cell BK182.out 3).trans rfl
     have hcz83_4 : wr.cell? ⟨gb182, 4, none⟩ = some (.int .i64 a0_4) := (blk_cell BK182.out 4).trans rfl
     have hfz83_0 := blk_frozen BK182.out 0
     have hfz83_1 := blk_frozen BK182.out 1
     have hfz83_2 := blk_frozen BK182.out 2
     have hfz83_3 := blk_frozen BK182.out 3
     have hfz83_4 := blk_frozen BK182.out 4
     try go_wp2
     have n0_ := Aside0.mk (Kd.R_drew HO_186000.out)
     have n1_ := Aside0.mk (Kd.R_drew HO_186001.out)
     have n2_ := Aside0.mk (Kd.R_drew HO_186002.out)
     have n3_ := Aside0.mk (Kd.R_drew HO_186003.out)
     have n4_ := Aside0.mk (blk_drew BK182.out)
     have n5_ := Aside0.mk (blk_drew BK183.out)
     have n6_ := Aside0.mk (blk_drew BK185.out)
     have n7_ := Aside0.mk (below_drew1 HB.out)
     clear HO_186000 HO_186001 HO_186002 HO_186003 BK182 BK183 BK185 HB
     have HO_186000 := n0_
     have HO_186001 := n1_
     have HO_186002 := n2_
     have HO_186003 := n3_
     have BK182 := n4_
     have BK183 := n5_
     have BK185 := n6_
     have HB := n7_
     clear n0_ n1_ n2_ n3_ n4_ n5_ n6_ n7_
     refine start_ (n := 11) (S := fun w' => w'.cell? ⟨gb182, 0, none⟩ = some (.slice A0_0 l0_0.length c0_0) ∧ w'.cell? ⟨gb182, 1, none⟩ = some (.slice A0_1 l0_1.length c0_1) ∧ w'.cell? ⟨gb182, 2, none⟩ = some (.int .i64 a0_2) ∧ w'.cell? ⟨gb182, 3, none⟩ = some (.int .i64 a0_3) ∧ w'.cell? ⟨gb182, 4, none⟩ = some (.int .i64 a0_4)) (ds := []) #[false, false, false, false, false, false, false, false, false, false, false] (by kernel_rfl) rfl rfl ⟨(blk_cell BK182.out 0).trans rfl, (blk_cell BK182.out 1).trans rfl, (blk_cell BK182.out 2).trans rfl, (blk_cell BK182.out 3).trans rfl, (blk_cell BK182.out 4).trans rfl⟩ (fun hHeld => ?_); refine with_tabW standbyref56_Plan.tab12 standbyref56_Plan.bits12 (fun HT_ HW_ => ?_)
     generalize wr.drew = w84 at HO_186000 HO_186001 HO_186002 HO_186003 BK182 BK183 BK185 HB hHeld ⊢
     refine pS (i := 1) (N := some 46) #[false, true, false, false, false, false, false, false, false, false, false] rfl rfl HT_.out ?_
     refine pS (i := 3) (N := some 48) #[false, true, false, true, false, false, false, false, false, false, false] rfl rfl HT_.out ?_
     refine take_ (i := 0) (N := some 45) (v := ?_) (a' := ?_) #[true, true, false, true, false, false, false, false, false, false, false] rfl rfl (take_ofW HT_.out HW_.out (by kernel_rfl)) (fun _ _ _ h => h) (Or.inl ⟨by rfl, ?_⟩) hHeld ?_ ?_; rotate_left
     ·rintro w' ⟨s0, s1, s2, s3, s4⟩
      go_simp
      with_reducible rfl
     rotate_left
     ·simp only [Act.put, List.setIfInBounds_toArray, List.set_cons_zero, List.set_cons_succ, i64_w, i32_w]
      rfl
     refine take_ (i := 2) (N := some 47) (v := ?_) (a' := ?_) #[true, true, true, true, false, false, false, false, false, false, false] rfl rfl (take_ofW HT_.out HW_.out (by kernel_rfl)) (fun _ _ _ h => h) (Or.inl ⟨by rfl, ?_⟩) hHeld ?_ ?_; rotate_left
     ·rintro w' ⟨s0, s1, s2, s3, s4⟩
      go_simp
      with_reducible rfl
     rotate_left
     ·simp only [Act.put, List.setIfInBounds_toArray, List.set_cons_zero, List.set_cons_succ, i64_w, i32_w]
      rfl
     refine one_ (i := 4) (N := some 49) #[true, true, true, true, true, false, false, false, false, false, false] rfl rfl (one_of HT_.out (by kernel_rfl)) (by decide) (fun K hK => ?_)
     refine goes_ Try.func39 (by kernel_rfl) rfl #[.agg #[.slice A0_0 l0_0.length c0_0, .slice A0_1 l0_1.length c0_1, .int .i64 a0_2, .int .i64 a0_3, .int .i64 a0_4], .int .i64 x9_1] (by rfl) rfl rfl (by (try simp only [List.map_toArray, List.map_cons, List.map_nil]); first | done | rfl | (simp only [List.length_drop, List.length_take]; rfl)) ?_
     with_reducible refine (standbyref56_Size.calls k1 _ _ l0_0 _ _ l0_1 a0_2 a0_3 a0_4 x9_1 t186 _ ?side1 ?side2 ?side3 ?side4 A15.out).mono ?_
     (case side1 => exact qC HR0_0.out HB.out)
     (case side2 => exact HC0_0.out)
     (case side3 => exact qC HR0_1.out HB.out)
     (case side4 => exact HC0_1.out)
     rintro e w85 ⟨rfl, hb⟩
     refine ⟨_, rfl, ?_⟩
     have n0_ := Aside0.mk (Kd.R_below (qR HO_186000.out) hb)
     have n1_ := Aside0.mk (Kd.R_below (qR HO_186001.out) hb)
     have n2_ := Aside0.mk (Kd.R_below (qR HO_186002.out) hb)
     have n3_ := Aside0.mk (Kd.R_below (qR HO_186003.out) hb)
     have n4_ := Aside0.mk (blk_below (qB BK182.out) hb)
     have n5_ := Aside0.mk (blk_below (qB BK183.out) hb)
     have n6_ := Aside0.mk (blk_below (qB BK185.out) hb)
     have n7_ := Aside0.mk (below_step (qW HB.out) hb)
     clear HO_186000 HO_186001 HO_186002 HO_186003 BK182 BK183 BK185 HB
     have HO_186000 := n0_
     have HO_186001 := n1_
     have HO_186002 := n2_
     have HO_186003 := n3_
     have BK182 := n4_
     have BK183 := n5_
     have BK185 := n6_
     have HB := n7_
     clear n0_ n1_ n2_ n3_ n4_ n5_ n6_ n7_
     (try clear hb); (try clear hb2); (try clear hk); (try clear hi)
     refine hK.out _ _ ⟨(blk_cell BK182.out 0).trans rfl, (blk_cell BK182.out 1).trans rfl, (blk_cell BK182.out 2).trans rfl, (blk_cell BK182.out 3).trans rfl, (blk_cell BK182.out 4).trans rfl⟩ (fun hHeld => ?_); clear hK K
     refine norm_ (a' := ?_) ?_ ?_; rotate_left
     ·show Act.put _ (some 49) _ = _
      simp only [Act.put, List.setIfInBounds_toArray, List.set_cons_zero, List.set_cons_succ, i64_w, i32_w]
      rfl
     refine one_ (i := 5) (N := some 50) #[true, true, true, true, true, true, false, false, false, false, false] rfl rfl (one_of HT_.out (by kernel_rfl)) (by decide) (fun K hK => ?_)
     refine goes_ Try.func38 (by kernel_rfl) rfl #[.agg #[.slice A0_0 l0_0.length c0_0, .slice A0_1 l0_1.length c0_1, .int .i64 a0_2, .int .i64 a0_3, .int .i64 a0_4], .int .i64 ji14, .int .i64 t186] (by rfl) rfl rfl (by (try simp only [List.map_toArray, List.map_cons, List.map_nil]); first | done | (simp only [hji14]; rfl) | rfl | (simp only [List.length_drop, List.length_take]; rfl)) ?_
     with_reducible refine (standbyref56_finish.calls k1 _ _ l0_0 _ _ l0_1 a0_2 a0_3 a0_4 ji14 t186 t187 false _ ?side1 ?side2 ?side3 ?side4 A16.out).mono ?_
     (case side1 => exact qC HR0_0.out HB.out)
     (case side2 => exact HC0_0.out)
     (case side3 => exact qC HR0_1.out HB.out)
     (case side4 => exact HC0_1.out)
     rintro e w86 ⟨rfl, hb⟩
     refine ⟨_, rfl, ?_⟩
     have n0_ := Aside0.mk (Kd.R_below (qR HO_186000.out) hb)
     have n1_ := Aside0.mk (Kd.R_below (qR HO_186001.out) hb)
     have n2_ := Aside0.mk (Kd.R_below (qR HO_186002.out) hb)
     have n3_ := Aside0.mk (Kd.R_below (qR HO_186003.out) hb)
     have n4_ := Aside0.mk (blk_below (qB BK182.out) hb)
     have n5_ := Aside0.mk (blk_below (qB BK183.out) hb)
     have n6_ := Aside0.mk (blk_below (qB BK185.out) hb)
     have n7_ := Aside0.mk (below_step (qW HB.out) hb)
     clear HO_186000 HO_186001 HO_186002 HO_186003 BK182 BK183 BK185 HB
     have HO_186000 := n0_
     have HO_186001 := n1_
     have HO_186002 := n2_
     have HO_186003 := n3_
     have BK182 := n4_
     have BK183 := n5_
     have BK185 := n6_
     have HB := n7_
     clear n0_ n1_ n2_ n3_ n4_ n5_ n6_ n7_
     (try clear hb); (try clear hb2); (try clear hk); (try clear hi)
     refine hK.out _ _ ⟨(blk_cell BK182.out 0).trans rfl, (blk_cell BK182.out 1).trans rfl, (blk_cell BK182.out 2).trans rfl, (blk_cell BK182.out 3).trans rfl, (blk_cell BK182.out 4).trans rfl⟩ (fun hHeld => ?_); clear hK K
     refine norm_ (a' := ?_) ?_ ?_; rotate_left
     ·show Act.put _ (some 50) _ = _
      simp only [Act.put, List.setIfInBounds_toArray, List.set_cons_zero, List.set_cons_succ, i64_w, i32_w]
      rfl
     refine pS (i := 6) (N := some 44) #[true, true, true, true, true, true, true, false, false, false, false] rfl rfl HT_.out ?_
     refine pS (i := 7) (N := some 51) #[true, true, true, true, true, true, true, true, false, false, false] rfl rfl HT_.out ?_
     refine pS (i := 8) (N := some 52) #[true, true, true, true, true, true, true, true, true, false, false] rfl rfl HT_.out ?_
     refine pS (i := 9) (N := some 12) #[true, true, true, true, true, true, true, true, true, true, false] rfl rfl HT_.out ?_
     refine pS (i := 10) (N := some 13) #[true, true, true, true, true, true, true, true, true, true, true] rfl rfl HT_.out ?_
     refine done_ (done_of HT_.out (by kernel_rfl)) ?_
     have hnb87 := NB183_185.out
     have hnc87 := NB185_183.out
     have hcz88_0 : w86.cell? ⟨gb183, 0, none⟩ = some (.slice none 0 0) := (blk_cell BK183.out 0).trans rfl
     have hcz88_1 : w86.cell? ⟨gb183, 1, none⟩ = some (.slice none 0 0) := (blk_cell BK183.out 1).trans rfl
     have hcz88_2 : w86.cell? ⟨gb183, 2, none⟩ = some (.slice none 0 0) := (blk_cell BK183.out 2).trans rfl
     have hcz88_3 : w86.cell? ⟨gb183, 3, none⟩ = some (.slice none 0 0) := (blk_cell BK183.out 3).trans rfl
     have hcz88_4 : w86.cell? ⟨gb183, 4, none⟩ = some (.int .i64 x184004_1) := (blk_cell BK183.out 4).trans rfl
     have hfz88_0 := blk_frozen BK183.out 0
     have hfz88_1 := blk_frozen BK183.out 1
     have hfz88_2 := blk_frozen BK183.out 2
     have hfz88_3 := blk_frozen BK183.out 3
     have hfz88_4 := blk_frozen BK183.out 4
     try go_wp2
     refine bodyPost_ret (results_ct rfl _ _ gb183 28 #[.slice none 0 0, .slice none 0 0, .slice none 0 0, .slice none 0 0, .int .i64 0] (0, 0) _ rfl (by (with_reducible repeat (first | refine blk_drewN ?_ _ | refine blk_drew ?_ | refine blk_alloc ?_ _)); refine blk_put (cs := #[.slice none 0 0, .slice none 0 0, .slice none 0 0, .slice none 0 0, .int .i64 x184004_1]) ?_ 4 _ rfl; (with_reducible repeat (first | refine blk_drewN ?_ _ | refine blk_drew ?_ | refine blk_alloc ?_ _)); refine blk_put (cs := #[.slice none 0 0, .slice none 0 0, .slice none 0 0, .slice none 0 0, .int .i64 x184004_1]) ?_ 3 _ rfl; (with_reducible repeat (first | refine blk_drewN ?_ _ | refine blk_drew ?_ | refine blk_alloc ?_ _)); refine blk_put (cs := #[.slice none 0 0, .slice none 0 0, .slice none 0 0, .slice none 0 0, .int .i64 x184004_1]) ?_ 2 _ rfl; (with_reducible repeat (first | refine blk_drewN ?_ _ | refine blk_drew ?_ | refine blk_alloc ?_ _)); refine blk_put (cs := #[.slice none 0 0, .slice none 0 0, .slice none 0 0, .slice none 0 0, .int .i64 x184004_1]) ?_ 1 _ rfl; (with_reducible repeat (first | refine blk_drewN ?_ _ | refine blk_drew ?_ | refine blk_alloc ?_ _)); refine blk_put (cs := #[.slice none 0 0, .slice none 0 0, .slice none 0 0, .slice none 0 0, .int .i64 x184004_1]) ?_ 0 _ rfl; exact qB BK183.out) Try.underlying28 rfl (by kernel_rfl)) rfl ?_
     exact ⟨_, _, _, _, by first | rfl | (simp [errW_none, errW_some] <;> rfl) | (simp only [← hji14]; first | rfl | (simp [errW_none, errW_some] <;> rfl)) | (simp [*, errW_none, errW_some] <;> rfl), by first | exact Kd.R_nil _ _ _ _ _ | exact Kd.N_nil _ _ _ _ _ | exact Kd.V_nil _ _ _ _ _ | exact Kd.Q_nil _ _ _ _ _ | exact Kd.S_nil _ _ _ _ _, by first | exact Kd.R_nil _ _ _ _ _ | exact Kd.N_nil _ _ _ _ _ | exact Kd.V_nil _ _ _ _ _ | exact Kd.Q_nil _ _ _ _ _ | exact Kd.S_nil _ _ _ _ _, by first | exact Kd.R_nil _ _ _ _ _ | exact Kd.N_nil _ _ _ _ _ | exact Kd.V_nil _ _ _ _ _ | exact Kd.Q_nil _ _ _ _ _ | exact Kd.S_nil _ _ _ _ _, by first | exact Kd.R_nil _ _ _ _ _ | exact Kd.N_nil _ _ _ _ _ | exact Kd.V_nil _ _ _ _ _ | exact Kd.Q_nil _ _ _ _ _ | exact Kd.S_nil _ _ _ _ _, by repeat (first | (with_reducible first | exact HB.out | apply below_alloc | apply pw_below_drewN | apply below_drew1 | refine below_set ?_ GE182.out | refine below_set ?_ GE183.out | refine below_set ?_ GE185.out) | exact HB.out)⟩
    subst c17
    have H1 : ((some (([wrap64 ((wrap64 (x9_1 + 1)) * a0_2)] : List Int) : List Int)).bind fun y189 => (if x186000_1.length + y189.length < 17592186044416 then ((some (([ji14] : List Int) : List Int)).bind fun y195 => (if x186001_1.length + y195.length < 17592186044416 then (standbyref56_Plan.j1 k1 (wrap64 (Int.tdiv (wrap64 ((wrap64 ((l0_0.length : Int) + a0_2)) - 1)) a0_2)) t187 x8_1 x9_1 (wrap64 ((wrap64 (x9_1 + 1)) * a0_2)) (wrap64 ((wrap64 (t187 + a0_3)) + a0_4)) l0_0 l0_1 a0_2 a0_3 a0_4 (x186000_1 ++ y189) (x186001_1 ++ y195) x186002_1 x186003_1 x186004_1) else (none))) else (none))) = some (r1, r2, r3, r4, r5, r6) := by rw [if_pos rfl] at H; exact H
    clear H
    have H := H1
    clear H1
    have HC18 := Aside0.mk H
    clear H
    have hnb19 := NB182_183.out
    have hnc19 := NB183_182.out
    have hnb20 := NB182_185.out
    have hnc20 := NB185_182.out
    have hcz21_0 : wr.cell? ⟨gb182, 0, none⟩ = some (.slice A0_0 l0_0.length c0_0) := (blk_cell BK182.out 0).trans rfl
    have hcz21_1 : wr.cell? ⟨gb182, 1, none⟩ = some (.slice A0_1 l0_1.length c0_1) := (blk_cell BK182.out 1).trans rfl
    have hcz21_2 : wr.cell? ⟨gb182, 2, none⟩ = some (.int .i64 a0_2) := (blk_cell BK182.out 2).trans rfl
    have hcz21_3 : wr.cell? ⟨gb182, 3, none⟩ = some (.int .i64 a0_3) := (blk_cell BK182.out 3).trans rfl
    have hcz21_4 : wr.cell? ⟨gb182, 4, none⟩ = some (.int .i64 a0_4) := (blk_cell BK182.out 4).trans rfl
    have hfz21_0 := blk_frozen BK182.out 0
    have hfz21_1 := blk_frozen BK182.out 1
    have hfz21_2 := blk_frozen BK182.out 2
    have hfz21_3 := blk_frozen BK182.out 3
    have hfz21_4 := blk_frozen BK182.out 4
    try go_wp2
    have n0_ := Aside0.mk (Kd.R_drew HO_186000.out)
    have n1_ := Aside0.mk (Kd.R_drew HO_186001.out)
    have n2_ := Aside0.mk (Kd.R_drew HO_186002.out)
    have n3_ := Aside0.mk (Kd.R_drew HO_186003.out)
    have n4_ := Aside0.mk (blk_drew BK182.out)
    have n5_ := Aside0.mk (blk_drew BK183.out)
    have n6_ := Aside0.mk (blk_drew BK185.out)
    have n7_ := Aside0.mk (below_drew1 HB.out)
    clear HO_186000 HO_186001 HO_186002 HO_186003 BK182 BK183 BK185 HB
    have HO_186000 := n0_
    have HO_186001 := n1_
    have HO_186002 := n2_
    have HO_186003 := n3_
    have BK182 := n4_
    have BK183 := n5_
    have BK185 := n6_
    have HB := n7_
    clear n0_ n1_ n2_ n3_ n4_ n5_ n6_ n7_
    refine start_ (n := 11) (S := fun w' => w'.cell? ⟨gb182, 0, none⟩ = some (.slice A0_0 l0_0.length c0_0) ∧ w'.cell? ⟨gb182, 1, none⟩ = some (.slice A0_1 l0_1.length c0_1) ∧ w'.cell? ⟨gb182, 2, none⟩ = some (.int .i64 a0_2) ∧ w'.cell? ⟨gb182, 3, none⟩ = some (.int .i64 a0_3) ∧ w'.cell? ⟨gb182, 4, none⟩ = some (.int .i64 a0_4)) (ds := []) #[false, false, false, false, false, false, false, false, false, false, false] (by kernel_rfl) rfl rfl ⟨(blk_cell BK182.out 0).trans rfl, (blk_cell BK182.out 1).trans rfl, (blk_cell BK182.out 2).trans rfl, (blk_cell BK182.out 3).trans rfl, (blk_cell BK182.out 4).trans rfl⟩ (fun hHeld => ?_); refine with_tabW standbyref56_Plan.tab12 standbyref56_Plan.bits12 (fun HT_ HW_ => ?_)
    generalize wr.drew = w22 at HO_186000 HO_186001 HO_186002 HO_186003 BK182 BK183 BK185 HB hHeld ⊢
    refine pS (i := 1) (N := some 46) #[false, true, false, false, false, false, false, false, false, false, false] rfl rfl HT_.out ?_
    refine pS (i := 3) (N := some 48) #[false, true, false, true, false, false, false, false, false, false, false] rfl rfl HT_.out ?_
    refine take_ (i := 0) (N := some 45) (v := ?_) (a' := ?_) #[true, true, false, true, false, false, false, false, false, false, false] rfl rfl (take_ofW HT_.out HW_.out (by kernel_rfl)) (fun _ _ _ h => h) (Or.inl ⟨by rfl, ?_⟩) hHeld ?_ ?_; rotate_left
    ·rintro w' ⟨s0, s1, s2, s3, s4⟩
     go_simp
     with_reducible rfl
    rotate_left
    ·simp only [Act.put, List.setIfInBounds_toArray, List.set_cons_zero, List.set_cons_succ, i64_w, i32_w]
     rfl
    refine take_ (i := 2) (N := some 47) (v := ?_) (a' := ?_) #[true, true, true, true, false, false, false, false, false, false, false] rfl rfl (take_ofW HT_.out HW_.out (by kernel_rfl)) (fun _ _ _ h => h) (Or.inl ⟨by rfl, ?_⟩) hHeld ?_ ?_; rotate_left
    ·rintro w' ⟨s0, s1, s2, s3, s4⟩
     go_simp
     with_reducible rfl
    rotate_left
    ·simp only [Act.put, List.setIfInBounds_toArray, List.set_cons_zero, List.set_cons_succ, i64_w, i32_w]
     rfl
    refine one_ (i := 4) (N := some 49) #[true, true, true, true, true, false, false, false, false, false, false] rfl rfl (one_of HT_.out (by kernel_rfl)) (by decide) (fun K hK => ?_)
    refine goes_ Try.func39 (by kernel_rfl) rfl #[.agg #[.slice A0_0 l0_0.length c0_0, .slice A0_1 l0_1.length c0_1, .int .i64 a0_2, .int .i64 a0_3, .int .i64 a0_4], .int .i64 x9_1] (by rfl) rfl rfl (by (try simp only [List.map_toArray, List.map_cons, List.map_nil]); first | done | rfl | (simp only [List.length_drop, List.length_take]; rfl)) ?_
    with_reducible refine (standbyref56_Size.calls k1 _ _ l0_0 _ _ l0_1 a0_2 a0_3 a0_4 x9_1 t186 _ ?side1 ?side2 ?side3 ?side4 A15.out).mono ?_
    (case side1 => exact qC HR0_0.out HB.out)
    (case side2 => exact HC0_0.out)
    (case side3 => exact qC HR0_1.out HB.out)
    (case side4 => exact HC0_1.out)
    rintro e w23 ⟨rfl, hb⟩
    refine ⟨_, rfl, ?_⟩
    have n0_ := Aside0.mk (Kd.R_below (qR HO_186000.out) hb)
    have n1_ := Aside0.mk (Kd.R_below (qR HO_186001.out) hb)
    have n2_ := Aside0.mk (Kd.R_below (qR HO_186002.out) hb)
    have n3_ := Aside0.mk (Kd.R_below (qR HO_186003.out) hb)
    have n4_ := Aside0.mk (blk_below (qB BK182.out) hb)
    have n5_ := Aside0.mk (blk_below (qB BK183.out) hb)
    have n6_ := Aside0.mk (blk_below (qB BK185.out) hb)
    have n7_ := Aside0.mk (below_step (qW HB.out) hb)
    clear HO_186000 HO_186001 HO_186002 HO_186003 BK182 BK183 BK185 HB
    have HO_186000 := n0_
    have HO_186001 := n1_
    have HO_186002 := n2_
    have HO_186003 := n3_
    have BK182 := n4_
    have BK183 := n5_
    have BK185 := n6_
    have HB := n7_
    clear n0_ n1_ n2_ n3_ n4_ n5_ n6_ n7_
    (try clear hb); (try clear hb2); (try clear hk); (try clear hi)
    refine hK.out _ _ ⟨(blk_cell BK182.out 0).trans rfl, (blk_cell BK182.out 1).trans rfl, (blk_cell BK182.out 2).trans rfl, (blk_cell BK182.out 3).trans rfl, (blk_cell BK182.out 4).trans rfl⟩ (fun hHeld => ?_); clear hK K
    refine norm_ (a' := ?_) ?_ ?_; rotate_left
    ·show Act.put _ (some 49) _ = _
     simp only [Act.put, List.setIfInBounds_toArray, List.set_cons_zero, List.set_cons_succ, i64_w, i32_w]
     rfl
    refine one_ (i := 5) (N := some 50) #[true, true, true, true, true, true, false, false, false, false, false] rfl rfl (one_of HT_.out (by kernel_rfl)) (by decide) (fun K hK => ?_)
    refine goes_ Try.func38 (by kernel_rfl) rfl #[.agg #[.slice A0_0 l0_0.length c0_0, .slice A0_1 l0_1.length c0_1, .int .i64 a0_2, .int .i64 a0_3, .int .i64 a0_4], .int .i64 ji14, .int .i64 t186] (by rfl) rfl rfl (by (try simp only [List.map_toArray, List.map_cons, List.map_nil]); first | done | (simp only [hji14]; rfl) | rfl | (simp only [List.length_drop, List.length_take]; rfl)) ?_
    with_reducible refine (standbyref56_finish.calls k1 _ _ l0_0 _ _ l0_1 a0_2 a0_3 a0_4 ji14 t186 t187 true _ ?side1 ?side2 ?side3 ?side4 A16.out).mono ?_
    (case side1 => exact qC HR0_0.out HB.out)
    (case side2 => exact HC0_0.out)
    (case side3 => exact qC HR0_1.out HB.out)
    (case side4 => exact HC0_1.out)
    rintro e w24 ⟨rfl, hb⟩
    refine ⟨_, rfl, ?_⟩
    have n0_ := Aside0.mk (Kd.R_below (qR HO_186000.out) hb)
    have n1_ := Aside0.mk (Kd.R_below (qR HO_186001.out) hb)
    have n2_ := Aside0.mk (Kd.R_below (qR HO_186002.out) hb)
    have n3_ := Aside0.mk (Kd.R_below (qR HO_186003.out) hb)
    have n4_ := Aside0.mk (blk_below (qB BK182.out) hb)
    have n5_ := Aside0.mk (blk_below (qB BK183.out) hb)
    have n6_ := Aside0.mk (blk_below (qB BK185.out) hb)
    have n7_ := Aside0.mk (below_step (qW HB.out) hb)
    clear HO_186000 HO_186001 HO_186002 HO_186003 BK182 BK183 BK185 HB
    have HO_186000 := n0_
    have HO_186001 := n1_
    have HO_186002 := n2_
    have HO_186003 := n3_
    have BK182 := n4_
    have BK183 := n5_
    have BK185 := n6_
    have HB := n7_
    clear n0_ n1_ n2_ n3_ n4_ n5_ n6_ n7_
    (try clear hb); (try clear hb2); (try clear hk); (try clear hi)
    refine hK.out _ _ ⟨(blk_cell BK182.out 0).trans rfl, (blk_cell BK182.out 1).trans rfl, (blk_cell BK182.out 2).trans rfl, (blk_cell BK182.out 3).trans rfl, (blk_cell BK182.out 4).trans rfl⟩ (fun hHeld => ?_); clear hK K
    refine norm_ (a' := ?_) ?_ ?_; rotate_left
    ·show Act.put _ (some 50) _ = _
     simp only [Act.put, List.setIfInBounds_toArray, List.set_cons_zero, List.set_cons_succ, i64_w, i32_w]
     rfl
    refine pS (i := 6) (N := some 44) #[true, true, true, true, true, true, true, false, false, false, false] rfl rfl HT_.out ?_
    refine pS (i := 7) (N := some 51) #[true, true, true, true, true, true, true, true, false, false, false] rfl rfl HT_.out ?_
    refine pS (i := 8) (N := some 52) #[true, true, true, true, true, true, true, true, true, false, false] rfl rfl HT_.out ?_
    refine pS (i := 9) (N := some 12) #[true, true, true, true, true, true, true, true, true, true, false] rfl rfl HT_.out ?_
    refine pS (i := 10) (N := some 13) #[true, true, true, true, true, true, true, true, true, true, true] rfl rfl HT_.out ?_
    refine done_ (done_of HT_.out (by kernel_rfl)) ?_
    have hcz25_0 : w24.cell? ⟨gb182, 0, none⟩ = some (.slice A0_0 l0_0.length c0_0) := (blk_cell BK182.out 0).trans rfl
    have hcz25_1 : w24.cell? ⟨gb182, 1, none⟩ = some (.slice A0_1 l0_1.length c0_1) := (blk_cell BK182.out 1).trans rfl
    have hcz25_2 : w24.cell? ⟨gb182, 2, none⟩ = some (.int .i64 a0_2) := (blk_cell BK182.out 2).trans rfl
    have hcz25_3 : w24.cell? ⟨gb182, 3, none⟩ = some (.int .i64 a0_3) := (blk_cell BK182.out 3).trans rfl
    have hcz25_4 : w24.cell? ⟨gb182, 4, none⟩ = some (.int .i64 a0_4) := (blk_cell BK182.out 4).trans rfl
    have hfz25_0 := blk_frozen BK182.out 0
    have hfz25_1 := blk_frozen BK182.out 1
    have hfz25_2 := blk_frozen BK182.out 2
    have hfz25_3 := blk_frozen BK182.out 3
    have hfz25_4 := blk_frozen BK182.out 4
    go_upto_region 17 with (fail)
    go_cut [] (fun wc => ∃ (kq : Nat) (x186000_17 : List Int) (x186001_17 : List Int) (u186000 : Value) (u186001 : Value), Aside0 (standbyref56_Plan.j1 kq (wrap64 (Int.tdiv (wrap64 ((wrap64 ((l0_0.length : Int) + a0_2)) - 1)) a0_2)) t187 x8_1 x9_1 (wrap64 ((wrap64 (x9_1 + 1)) * a0_2)) (wrap64 ((wrap64 (t187 + a0_3)) + a0_4)) l0_0 l0_1 a0_2 a0_3 a0_4 x186000_17 x186001_17 x186002_1 x186003_1 x186004_1 = some (r1, r2, r3, r4, r5, r6)) ∧ Aside0 (kq ≤ k1) ∧ Aside0 (Kd.R (Kd.int .i64) 3 wc w.heap.size (fun k_ => some k_ ≠ (u186001 : Value).ownBlock ∧ some k_ ≠ (u186002 : Value).ownBlock ∧ some k_ ≠ (u186003 : Value).ownBlock) u186000 x186000_17) ∧ Aside0 (Kd.R (Kd.int .i64) 3 wc w.heap.size (fun k_ => some k_ ≠ (u186000 : Value).ownBlock ∧ some k_ ≠ (u186002 : Value).ownBlock ∧ some k_ ≠ (u186003 : Value).ownBlock) u186001 x186001_17) ∧ Aside0 (Kd.R (Kd.int .i64) 3 wc w.heap.size (fun k_ => some k_ ≠ (u186000 : Value).ownBlock ∧ some k_ ≠ (u186001 : Value).ownBlock ∧ some k_ ≠ (u186003 : Value).ownBlock) u186002 x186002_1) ∧ Aside0 (Kd.R (Kd.int .i64) 3 wc w.heap.size (fun k_ => some k_ ≠ (u186000 : Value).ownBlock ∧ some k_ ≠ (u186001 : Value).ownBlock ∧ some k_ ≠ (u186002 : Value).ownBlock) u186003 x186003_1) ∧ Aside0 (wc.heap[gb182]? = some (.cells #[(.slice A0_0 l0_0.length c0_0), (.slice A0_1 l0_1.length c0_1), .int .i64 a0_2, .int .i64 a0_3, .int .i64 a0_4] 24 (0, 0))) ∧ Aside0 (wc.heap[gb183]? = some (.cells #[(.slice none 0 0), (.slice none 0 0), (.slice none 0 0), (.slice none 0 0), .int .i64 x184004_1] 28 (0, 0))) ∧ Aside0 (wc.heap[gb185]? = some (.cells #[u186000, u186001, u186002, u186003, .int .i64 x186004_1] 28 (0, 0))) ∧ Aside0 (Below w.heap.size w wc))
    case first =>
     have H := HC18.out
     clear HC18
     obtain ⟨y189, hy189⟩ : ∃ y_ : List Int, y_ = (([wrap64 ((wrap64 (x9_1 + 1)) * a0_2)] : List Int)) := ⟨_, rfl⟩
     replace H : (if x186000_1.length + y189.length < 17592186044416 then ((some (([ji14] : List Int) : List Int)).bind fun y195 => (if x186001_1.length + y195.length < 17592186044416 then (standbyref56_Plan.j1 k1 (wrap64 (Int.tdiv (wrap64 ((wrap64 ((l0_0.length : Int) + a0_2)) - 1)) a0_2)) t187 x8_1 x9_1 (wrap64 ((wrap64 (x9_1 + 1)) * a0_2)) (wrap64 ((wrap64 (t187 + a0_3)) + a0_4)) l0_0 l0_1 a0_2 a0_3 a0_4 (x186000_1 ++ y189) (x186001_1 ++ y195) x186002_1 x186003_1 x186004_1) else (none))) else (none)) = some (r1, r2, r3, r4, r5, r6) := by first | (rw [hy189]; with_reducible exact H) | (have H2_ := (Option.bind_some _ _).symm.trans H; rw [hy189]; with_reducible exact H2_) | (have H2_ := (Option.bind_some _ _).symm.trans H; with_reducible exact H2_) | with_reducible exact H | (rw [hy189]; exact H) | exact H
     have Ny189 := Aside0.mk hy189
     clear hy189
     by_cases c26 : x186000_1.length + y189.length < 17592186044416
     case neg =>
      rw [if_neg c26] at H
      exact absurd H (by simp)
     rw [if_pos c26] at H
     have LMc26 := Aside0.mk c26
     clear c26
     obtain ⟨y192, hy192⟩ : ∃ y_ : List Int, y_ = (x186000_1 ++ y189) := ⟨_, rfl⟩
     replace H : ((some (([ji14] : List Int) : List Int)).bind fun y195 => (if x186001_1.length + y195.length < 17592186044416 then (standbyref56_Plan.j1 k1 (wrap64 (Int.tdiv (wrap64 ((wrap64 ((l0_0.length : Int) + a0_2)) - 1)) a0_2)) t187 x8_1 x9_1 (wrap64 ((wrap64 (x9_1 + 1)) * a0_2)) (wrap64 ((wrap64 (t187 + a0_3)) + a0_4)) l0_0 l0_1 a0_2 a0_3 a0_4 y192 (x186001_1 ++ y195) x186002_1 x186003_1 x186004_1) else (none))) = some (r1, r2, r3, r4, r5, r6) := by first | (rw [hy192]; with_reducible exact H) | (have H2_ := (Option.bind_some _ _).symm.trans H; rw [hy192]; with_reducible exact H2_) | (have H2_ := (Option.bind_some _ _).symm.trans H; with_reducible exact H2_) | with_reducible exact H | (rw [hy192]; exact H) | exact H
     have Ny192 := Aside0.mk hy192
     clear hy192
     obtain ⟨y195, hy195⟩ : ∃ y_ : List Int, y_ = (([ji14] : List Int)) := ⟨_, rfl⟩
     replace H : (if x186001_1.length + y195.length < 17592186044416 then (standbyref56_Plan.j1 k1 (wrap64 (Int.tdiv (wrap64 ((wrap64 ((l0_0.length : Int) + a0_2)) - 1)) a0_2)) t187 x8_1 x9_1 (wrap64 ((wrap64 (x9_1 + 1)) * a0_2)) (wrap64 ((wrap64 (t187 + a0_3)) + a0_4)) l0_0 l0_1 a0_2 a0_3 a0_4 y192 (x186001_1 ++ y195) x186002_1 x186003_1 x186004_1) else (none)) = some (r1, r2, r3, r4, r5, r6) := by first | (rw [hy195]; with_reducible exact H) | (have H2_ := (Option.bind_some _ _).symm.trans H; rw [hy195]; with_reducible exact H2_) | (have H2_ := (Option.bind_some _ _).symm.trans H; with_reducible exact H2_) | with_reducible exact H | (rw [hy195]; exact H) | exact H
     have Ny195 := Aside0.mk hy195
     clear hy195
     by_cases c27 : x186001_1.length + y195.length < 17592186044416
     case neg =>
      rw [if_neg c27] at H
      exact absurd H (by simp)
     rw [if_pos c27] at H
     have LMc27 := Aside0.mk c27
     clear c27
     obtain ⟨y198, hy198⟩ : ∃ y_ : List Int, y_ = (x186001_1 ++ y195) := ⟨_, rfl⟩
     replace H : (standbyref56_Plan.j1 k1 (wrap64 (Int.tdiv (wrap64 ((wrap64 ((l0_0.length : Int) + a0_2)) - 1)) a0_2)) t187 x8_1 x9_1 (wrap64 ((wrap64 (x9_1 + 1)) * a0_2)) (wrap64 ((wrap64 (t187 + a0_3)) + a0_4)) l0_0 l0_1 a0_2 a0_3 a0_4 y192 y198 x186002_1 x186003_1 x186004_1) = some (r1, r2, r3, r4, r5, r6) := by first | (rw [hy198]; with_reducible exact H) | (have H2_ := (Option.bind_some _ _).symm.trans H; rw [hy198]; with_reducible exact H2_) | (have H2_ := (Option.bind_some _ _).symm.trans H; with_reducible exact H2_) | with_reducible exact H | (rw [hy198]; exact H) | exact H
     have Ny198 := Aside0.mk hy198
     clear hy198
     have H' := Aside0.mk H
     clear H
     obtain ⟨Ao28, co28, eo28⟩ := Kd.R_slice HO_186000.out
     subst eo28
     obtain ⟨Ao29, co29, eo29⟩ := Kd.R_slice HO_186001.out
     subst eo29
     try go_wp2
     have n0_ := Aside0.mk (Kd.R_drew HO_186000.out)
     have n1_ := Aside0.mk (Kd.R_drew HO_186001.out)
     have n2_ := Aside0.mk (Kd.R_drew HO_186002.out)
     have n3_ := Aside0.mk (Kd.R_drew HO_186003.out)
     have n4_ := Aside0.mk (blk_drew BK182.out)
     have n5_ := Aside0.mk (blk_drew BK183.out)
     have n6_ := Aside0.mk (blk_drew BK185.out)
     have n7_ := Aside0.mk (below_drew1 HB.out)
     clear HO_186000 HO_186001 HO_186002 HO_186003 BK182 BK183 BK185 HB
     have HO_186000 := n0_
     have HO_186001 := n1_
     have HO_186002 := n2_
     have HO_186003 := n3_
     have BK182 := n4_
     have BK183 := n5_
     have BK185 := n6_
     have HB := n7_
     clear n0_ n1_ n2_ n3_ n4_ n5_ n6_ n7_
     refine start_ (n := 14) (S := fun w' => w'.cell? ⟨gb185, 0, none⟩ = some (.slice Ao28 x186000_1.length co28) ∧ w'.cell? ⟨gb185, 1, none⟩ = some (.slice Ao29 x186001_1.length co29) ∧ w'.cell? ⟨gb185, 2, none⟩ = some (u186002) ∧ w'.cell? ⟨gb185, 3, none⟩ = some (u186003) ∧ w'.cell? ⟨gb185, 4, none⟩ = some (.int .i64 x186004_1)) (ds := [11, 13]) #[false, false, false, false, false, false, false, false, false, false, false, false, false, false] (by kernel_rfl) rfl rfl ⟨(blk_cell BK185.out 0).trans rfl, (blk_cell BK185.out 1).trans rfl, (blk_cell BK185.out 2).trans rfl, (blk_cell BK185.out 3).trans rfl, (blk_cell BK185.out 4).trans rfl⟩ (fun hHeld => ?_); refine with_tabW standbyref56_Plan.tab17 standbyref56_Plan.bits17 (fun HT_ HW_ => ?_)
     generalize w24.drew = w30 at HO_186000 HO_186001 HO_186002 HO_186003 BK182 BK183 BK185 HB hHeld ⊢
     refine pS (i := 0) (N := some 64) #[true, false, false, false, false, false, false, false, false, false, false, false, false, false] rfl rfl HT_.out ?_
     refine pS (i := 2) (N := some 66) #[true, false, true, false, false, false, false, false, false, false, false, false, false, false] rfl rfl HT_.out ?_
     refine pS (i := 5) (N := some 69) #[true, false, true, false, false, true, false, false, false, false, false, false, false, false] rfl rfl HT_.out ?_
     refine pS (i := 7) (N := some 71) #[true, false, true, false, false, true, false, true, false, false, false, false, false, false] rfl rfl HT_.out ?_
     refine take_ (i := 1) (N := some 65) (v := ?_) (a' := ?_) #[true, true, true, false, false, true, false, true, false, false, false, false, false, false] rfl rfl (take_ofW HT_.out HW_.out (by kernel_rfl)) (fun _ _ _ h => h) (Or.inl ⟨by rfl, ?_⟩) hHeld ?_ ?_; rotate_left
     ·rintro w' ⟨s0, s1, s2, s3, s4⟩
      go_simp
      with_reducible rfl
     rotate_left
     ·simp only [Act.put, List.setIfInBounds_toArray, List.set_cons_zero, List.set_cons_succ, i64_w, i32_w]
      rfl
     refine take_ (i := 6) (N := some 70) (v := ?_) (a' := ?_) #[true, true, true, false, false, true, true, true, false, false, false, false, false, false] rfl rfl (take_ofW HT_.out HW_.out (by kernel_rfl)) (fun _ _ _ h => h) (Or.inl ⟨by rfl, ?_⟩) hHeld ?_ ?_; rotate_left
     ·rintro w' ⟨s0, s1, s2, s3, s4⟩
      go_simp
      with_reducible rfl
     rotate_left
     ·simp only [Act.put, List.setIfInBounds_toArray, List.set_cons_zero, List.set_cons_succ, i64_w, i32_w]
      rfl
     refine join_ (σ := Value × Value × Value) 4 #[true, true, true, true, true, true, true, true, true, false, true, false, false, false] (fun s_ => [(67, s_.1), (68, s_.2.1), (72, s_.2.2), (74, .pointer (some ⟨gb185, 0, none⟩))]) (fun s_ w' => (w'.cell? ⟨gb185, 0, none⟩ = some (.slice Ao28 x186000_1.length co28) ∧ w'.cell? ⟨gb185, 1, none⟩ = some (.slice Ao29 x186001_1.length co29) ∧ w'.cell? ⟨gb185, 2, none⟩ = some (u186002) ∧ w'.cell? ⟨gb185, 3, none⟩ = some (u186003) ∧ w'.cell? ⟨gb185, 4, none⟩ = some (.int .i64 x186004_1)) ∧ (Kd.R (Kd.int .i64) 3 w' w.heap.size (fun k_ => some k_ ≠ (s_.2.1 : Value).ownBlock ∧ some k_ ≠ (s_.2.2 : Value).ownBlock ∧ some k_ ≠ (.slice Ao29 x186001_1.length co29 : Value).ownBlock ∧ some k_ ≠ (u186002 : Value).ownBlock ∧ some k_ ≠ (u186003 : Value).ownBlock) s_.1 y189) ∧ (Kd.R (Kd.int .i64) 3 w' w.heap.size (fun k_ => some k_ ≠ (s_.1 : Value).ownBlock ∧ some k_ ≠ (s_.2.2 : Value).ownBlock ∧ some k_ ≠ (.slice Ao29 x186001_1.length co29 : Value).ownBlock ∧ some k_ ≠ (u186002 : Value).ownBlock ∧ some k_ ≠ (u186003 : Value).ownBlock) s_.2.1 y192) ∧ (Kd.R (Kd.int .i64) 3 w' w.heap.size (fun k_ => some k_ ≠ (s_.1 : Value).ownBlock ∧ some k_ ≠ (s_.2.1 : Value).ownBlock ∧ some k_ ≠ (.slice Ao29 x186001_1.length co29 : Value).ownBlock ∧ some k_ ≠ (u186002 : Value).ownBlock ∧ some k_ ≠ (u186003 : Value).ownBlock) s_.2.2 y195) ∧ (Kd.R (Kd.int .i64) 3 w' w.heap.size (fun k_ => some k_ ≠ (s_.1 : Value).ownBlock ∧ some k_ ≠ (s_.2.1 : Value).ownBlock ∧ some k_ ≠ (s_.2.2 : Value).ownBlock ∧ some k_ ≠ (u186002 : Value).ownBlock ∧ some k_ ≠ (u186003 : Value).ownBlock) (.slice Ao29 x186001_1.length co29) x186001_1) ∧ (Kd.R (Kd.int .i64) 3 w' w.heap.size (fun k_ => some k_ ≠ (s_.1 : Value).ownBlock ∧ some k_ ≠ (s_.2.1 : Value).ownBlock ∧ some k_ ≠ (s_.2.2 : Value).ownBlock ∧ some k_ ≠ (.slice Ao29 x186001_1.length co29 : Value).ownBlock ∧ some k_ ≠ (u186003 : Value).ownBlock) u186002 x186002_1) ∧ (Kd.R (Kd.int .i64) 3 w' w.heap.size (fun k_ => some k_ ≠ (s_.1 : Value).ownBlock ∧ some k_ ≠ (s_.2.1 : Value).ownBlock ∧ some k_ ≠ (s_.2.2 : Value).ownBlock ∧ some k_ ≠ (.slice Ao29 x186001_1.length co29 : Value).ownBlock ∧ some k_ ≠ (u186002 : Value).ownBlock) u186003 x186003_1) ∧ (w'.heap[gb182]? = some (.cells #[.slice A0_0 l0_0.length c0_0, .slice A0_1 l0_1.length c0_1, .int .i64 a0_2, .int .i64 a0_3, .int .i64 a0_4] 24 (0, 0))) ∧ (w'.heap[gb183]? = some (.cells #[.slice none 0 0, .slice none 0 0, .slice none 0 0, .slice none 0 0, .int .i64 x184004_1] 28 (0, 0))) ∧ (w'.heap[gb185]? = some (.cells #[.slice Ao28 x186000_1.length co28, .slice Ao29 x186001_1.length co29, u186002, u186003, .int .i64 x186004_1] 28 (0, 0))) ∧ (Below w.heap.size w w')) ?_ ?_; rotate_left
     ·intro hCont
      refine two_ (i := 3) (j := 8) (Ni := some 67) (Nj := some 72) #[true, true, true, true, false, true, true, true, false, false, false, false, false, false] #[true, true, true, false, false, true, true, true, true, false, false, false, false, false] rfl rfl rfl rfl (two_of HT_.out (by kernel_rfl)) (by decide) (by decide) (fun K hK => ?_) (fun K hK => ?_)
      ·skip
       refine Kd.R_lit_step (Kd.int .i64) _ 3 ?hg (N := 67) ?hd (xs := ([wrap64 ((wrap64 (x9_1 + 1)) * a0_2)] : List Int)) (inner := [.int .i64 (wrap64 ((wrap64 (x9_1 + 1)) * a0_2))]) (ok := fun _ => True) (okp := fun _ => True) ?hr ?hp (fun _ hk => hk) trivial (Below.refl _ _) (Nat.le_refl _) (by simp) ?_; (case hd => rfl); (case hg => rfl); (case hr => first | (go_simp; done) | (go_simp; rfl)); (case hp => exact (Reps.one (show Kd.M (Kd.int .i64) _ _ _ (wrap64 ((wrap64 (x9_1 + 1)) * a0_2)) [.int .i64 (wrap64 ((wrap64 (x9_1 + 1)) * a0_2))] from rfl) (Reps.none _ _)))
       intro v190 w31 ho32 hb hg_ hnew_
       clear hg_ hnew_
       (first | rw [← Ny189.out] at ho32 | (simp only [Int.reduceToNat] at ho32; rw [← Ny189.out] at ho32))
       have n0_ := Aside0.mk (Kd.R_elder' (qR HO_186000.out) (Kd.R_base ho32) hb)
       have n1_ := Aside0.mk (Kd.R_elder' (qR HO_186001.out) (Kd.R_base ho32) hb)
       have n2_ := Aside0.mk (Kd.R_elder' (qR HO_186002.out) (Kd.R_base ho32) hb)
       have n3_ := Aside0.mk (Kd.R_elder' (qR HO_186003.out) (Kd.R_base ho32) hb)
       have n4_ := Aside0.mk (Kd.R_lower (Kd.R_new' (Kd.R_new' (Kd.R_new' (Kd.R_new' ho32 (Kd.R_lt (qR HO_186000.out))) (Kd.R_lt (qR HO_186001.out))) (Kd.R_lt (qR HO_186002.out))) (Kd.R_lt (qR HO_186003.out))) (below_size (qW HB.out)))
       have n5_ := Aside0.mk (blk_below (qB BK182.out) hb)
       have n6_ := Aside0.mk (blk_below (qB BK183.out) hb)
       have n7_ := Aside0.mk (blk_below (qB BK185.out) hb)
       have n8_ := Aside0.mk (below_step (qW HB.out) hb)
       clear HO_186000 HO_186001 HO_186002 HO_186003 BK182 BK183 BK185 HB
       have HO_186000 := n0_
       have HO_186001 := n1_
       have HO_186002 := n2_
       have HO_186003 := n3_
       have HO191 := n4_
       have BK182 := n5_
       have BK183 := n6_
       have BK185 := n7_
       have HB := n8_
       clear n0_ n1_ n2_ n3_ n4_ n5_ n6_ n7_ n8_ hb ho32
       obtain ⟨Ao34, co34, eo34⟩ := Kd.R_slice HO191.out
       (first | subst eo34 | (injection eo34 with f1_ f2_ f3_; have f4_ := f1_.symm; have f5_ := f3_.symm; clear f1_ f2_ f3_; subst f4_; subst f5_))
       refine hK.out _ _ ⟨(blk_cell BK185.out 0).trans rfl, (blk_cell BK185.out 1).trans rfl, (blk_cell BK185.out 2).trans rfl, (blk_cell BK185.out 3).trans rfl, (blk_cell BK185.out 4).trans rfl⟩ (fun hHeld => ?_); clear hK K
       refine norm_ (a' := ?_) ?_ ?_; rotate_left
       ·show Act.put _ (some 67) _ = _
        simp only [Act.put, List.setIfInBounds_toArray, List.set_cons_zero, List.set_cons_succ, i64_w, i32_w]
        rfl
       refine two_ (i := 4) (j := 8) (Ni := some 68) (Nj := some 72) #[true, true, true, true, true, true, true, true, false, false, false, false, false, false] #[true, true, true, true, false, true, true, true, true, false, false, false, false, false] rfl rfl rfl rfl (two_of HT_.out (by kernel_rfl)) (by decide) (by decide) (fun K hK => ?_) (fun K hK => ?_)
       ·skip
        refine Kd.R_append_rows_step (Kd.int .i64) (w0 := w) w.heap.size (by rfl) (.tmp 65) (.tmp 67) 22 3 (.int .i64 0) 8 rfl Try.underlying22 info3 rfl (by decide) (by omega) (.slice Ao28 x186000_1.length co28) x186000_1 y189 _ _ _ (fun k_ => some k_ ≠ (.slice Ao29 x186001_1.length co29 : Value).ownBlock ∧ some k_ ≠ (u186002 : Value).ownBlock ∧ some k_ ≠ (u186003 : Value).ownBlock ∧ some k_ ≠ (.slice Ao34 y189.length co34 : Value).ownBlock) (fun _ => False) rfl rfl ?aO ?aR (fun _ _ h => h) (fun _ h => h.elim) ?aF ?aB ?aS ?aL ?_
        (case aR => repeat (first | exact (Kd.R_reads' HO191.out).2.2 | (with_reducible refine Kd.C_alloc ?_ _) | (with_reducible refine Kd.C_drewN ?_ _) | (with_reducible refine Kd.C_drew ?_)))
        (case aB => exact (qW HB.out))
        (case aF => exact (fun k_ hk => ⟨Kd.fresh' (Kd.R_lt (qR HO_186001.out)) k_ hk, Kd.fresh' (Kd.R_lt (qR HO_186002.out)) k_ hk, Kd.fresh' (Kd.R_lt (qR HO_186003.out)) k_ hk, Kd.fresh' (Kd.R_lt (qR HO191.out)) k_ hk⟩))
        (case aO => exact (qR (Kd.R_mono HO_186000.out (fun _ hk => ⟨hk.1.1, ⟨hk.1.2.1, ⟨hk.1.2.2, hk.2⟩⟩⟩))))
        (case aS => exact (below_size (qW HB.out)))
        (case aL => have := LMc26.out; omega)
        intro v193 w33 ho hb hg hat
        rw [← Ny192.out] at ho
        have n0_ := Aside0.mk (Kd.R_after (ok := (fun k_ => some k_ ≠ (u186002 : Value).ownBlock ∧ some k_ ≠ (u186003 : Value).ownBlock ∧ some k_ ≠ (.slice Ao34 y189.length co34 : Value).ownBlock)) (qR (Kd.R_mono HO_186001.out (fun _ hk => ⟨⟨hk.1.2.1, ⟨hk.1.2.2, hk.2⟩⟩, hk.1.1⟩))) hg hat)
        have n1_ := Aside0.mk (Kd.R_after (ok := (fun k_ => some k_ ≠ (.slice Ao29 x186001_1.length co29 : Value).ownBlock ∧ some k_ ≠ (u186003 : Value).ownBlock ∧ some k_ ≠ (.slice Ao34 y189.length co34 : Value).ownBlock)) (qR (Kd.R_mono HO_186002.out (fun _ hk => ⟨⟨hk.1.2.1, ⟨hk.1.2.2, hk.2⟩⟩, hk.1.1⟩))) hg hat)
        have n2_ := Aside0.mk (Kd.R_after (ok := (fun k_ => some k_ ≠ (.slice Ao29 x186001_1.length co29 : Value).ownBlock ∧ some k_ ≠ (u186002 : Value).ownBlock ∧ some k_ ≠ (.slice Ao34 y189.length co34 : Value).ownBlock)) (qR (Kd.R_mono HO_186003.out (fun _ hk => ⟨⟨hk.1.2.1, ⟨hk.1.2.2, hk.2⟩⟩, hk.1.1⟩))) hg hat)
        have n3_ := Aside0.mk (blk_grown (qB BK182.out) hg (Kd.R_ne HO_186000.out BK182.out (by decide)))
        have n4_ := Aside0.mk (blk_grown (qB BK183.out) hg (Kd.R_ne HO_186000.out BK183.out (by decide)))
        have n5_ := Aside0.mk (blk_grown (qB BK185.out) hg (Kd.R_ne HO_186000.out BK185.out (by decide)))
        have n6_ := Aside0.mk (Kd.R_after (ok := (fun k_ => some k_ ≠ (.slice Ao29 x186001_1.length co29 : Value).ownBlock ∧ some k_ ≠ (u186002 : Value).ownBlock ∧ some k_ ≠ (u186003 : Value).ownBlock)) (qR (Kd.R_mono HO191.out (fun _ hk => ⟨⟨hk.1.1.2, ⟨hk.1.2, hk.2⟩⟩, hk.1.1.1.2⟩))) hg hat)
        have n7_ := Aside0.mk (hb)
        have n8_ := Aside0.mk (ho)
        clear HO_186001 HO_186002 HO_186003 BK182 BK183 BK185 HO191 HB HO_186000
        have HO_186001 := n0_
        have HO_186002 := n1_
        have HO_186003 := n2_
        have BK182 := n3_
        have BK183 := n4_
        have BK185 := n5_
        have HO191 := n6_
        have HB := n7_
        have HO194 := n8_
        clear n0_ n1_ n2_ n3_ n4_ n5_ n6_ n7_ n8_ ho hb hg hat
        refine hK.out _ _ ⟨(blk_cell BK185.out 0).trans rfl, (blk_cell BK185.out 1).trans rfl, (blk_cell BK185.out 2).trans rfl, (blk_cell BK185.out 3).trans rfl, (blk_cell BK185.out 4).trans rfl⟩ (fun hHeld => ?_); clear hK K
        refine norm_ (a' := ?_) ?_ ?_; rotate_left
        ·show Act.put _ (some 68) _ = _
         simp only [Act.put, List.setIfInBounds_toArray, List.set_cons_zero, List.set_cons_succ, i64_w, i32_w]
         rfl
        refine pS (i := 10) (N := some 74) #[true, true, true, true, true, true, true, true, false, false, true, false, false, false] rfl rfl HT_.out ?_
        refine one_ (i := 8) (N := some 72) #[true, true, true, true, true, true, true, true, true, false, true, false, false, false] rfl rfl (one_of HT_.out (by kernel_rfl)) (by decide) (fun K hK => ?_)
        refine Kd.R_lit_step (Kd.int .i64) _ 3 ?hg (N := 72) ?hd (xs := ([ji14] : List Int)) (inner := [.int .i64 ji14]) (ok := fun _ => True) (okp := fun _ => True) ?hr ?hp (fun _ hk => hk) trivial (Below.refl _ _) (Nat.le_refl _) (by simp) ?_; (case hd => rfl); (case hg => rfl); (case hr => first | (go_simp; done) | (go_simp; rfl)); (case hp => exact (Reps.one (show Kd.M (Kd.int .i64) _ _ _ ji14 [.int .i64 ji14] from rfl) (Reps.none _ _)))
        intro v196 w35 ho36 hb hg_ hnew_
        clear hg_ hnew_
        (first | rw [← Ny195.out] at ho36 | (simp only [Int.reduceToNat] at ho36; rw [← Ny195.out] at ho36))
        have n0_ := Aside0.mk (Kd.R_elder' (qR HO_186001.out) (Kd.R_base ho36) hb)
        have n1_ := Aside0.mk (Kd.R_elder' (qR HO_186002.out) (Kd.R_base ho36) hb)
        have n2_ := Aside0.mk (Kd.R_elder' (qR HO_186003.out) (Kd.R_base ho36) hb)
        have n3_ := Aside0.mk (Kd.R_elder' (qR HO191.out) (Kd.R_base ho36) hb)
        have n4_ := Aside0.mk (Kd.R_elder' (qR HO194.out) (Kd.R_base ho36) hb)
        have n5_ := Aside0.mk (Kd.R_lower (Kd.R_new' (Kd.R_new' (Kd.R_new' (Kd.R_new' (Kd.R_new' ho36 (Kd.R_lt (qR HO_186001.out))) (Kd.R_lt (qR HO_186002.out))) (Kd.R_lt (qR HO_186003.out))) (Kd.R_lt (qR HO191.out))) (Kd.R_lt (qR HO194.out))) (below_size (qW HB.out)))
        have n6_ := Aside0.mk (blk_below (qB BK182.out) hb)
        have n7_ := Aside0.mk (blk_below (qB BK183.out) hb)
        have n8_ := Aside0.mk (blk_below (qB BK185.out) hb)
        have n9_ := Aside0.mk (below_step (qW HB.out) hb)
        clear HO_186001 HO_186002 HO_186003 HO191 HO194 BK182 BK183 BK185 HB
        have HO_186001 := n0_
        have HO_186002 := n1_
        have HO_186003 := n2_
        have HO191 := n3_
        have HO194 := n4_
        have HO197 := n5_
        have BK182 := n6_
        have BK183 := n7_
        have BK185 := n8_
        have HB := n9_
        clear n0_ n1_ n2_ n3_ n4_ n5_ n6_ n7_ n8_ n9_ hb ho36
        refine hK.out _ _ ⟨(blk_cell BK185.out 0).trans rfl, (blk_cell BK185.out 1).trans rfl, (blk_cell BK185.out 2).trans rfl, (blk_cell BK185.out 3).trans rfl, (blk_cell BK185.out 4).trans rfl⟩ (fun hHeld => ?_); clear hK K
        refine norm_ (a' := ?_) ?_ ?_; rotate_left
        ·show Act.put _ (some 72) _ = _
         simp only [Act.put, List.setIfInBounds_toArray, List.set_cons_zero, List.set_cons_succ, i64_w, i32_w]
         rfl
        exact norm_ (by simp only [putAll, Act.put, List.setIfInBounds_toArray, List.set_cons_zero, List.set_cons_succ]) (hCont (.slice Ao34 y189.length co34, v193, v196) _ ⟨hHeld, (qR (Kd.R_mono HO191.out (fun _ hk => ⟨hk.1.2, ⟨hk.2, ⟨hk.1.1.1, ⟨hk.1.1.2.1, hk.1.1.2.2⟩⟩⟩⟩))), (qR (Kd.R_mono HO194.out (fun _ hk => ⟨hk.1.2.2.2, ⟨hk.2, ⟨hk.1.1, ⟨hk.1.2.1, hk.1.2.2.1⟩⟩⟩⟩))), (qR (Kd.R_mono HO197.out (fun _ hk => ⟨hk.1.2, ⟨hk.2, ⟨hk.1.1.1.1.2, ⟨hk.1.1.1.2, hk.1.1.2⟩⟩⟩⟩))), (qR (Kd.R_mono HO_186001.out (fun _ hk => ⟨hk.1.1.2.2, ⟨hk.1.2, ⟨hk.2, ⟨hk.1.1.1, hk.1.1.2.1⟩⟩⟩⟩))), (qR (Kd.R_mono HO_186002.out (fun _ hk => ⟨hk.1.1.2.2, ⟨hk.1.2, ⟨hk.2, ⟨hk.1.1.1, hk.1.1.2.1⟩⟩⟩⟩))), (qR (Kd.R_mono HO_186003.out (fun _ hk => ⟨hk.1.1.2.2, ⟨hk.1.2, ⟨hk.2, ⟨hk.1.1.1, hk.1.1.2.1⟩⟩⟩⟩))), (qB BK182.out), (qB BK183.out), (qB BK185.out), (qW HB.out)⟩)
       ·skip
        refine Kd.R_lit_step (Kd.int .i64) _ 3 ?hg (N := 72) ?hd (xs := ([ji14] : List Int)) (inner := [.int .i64 ji14]) (ok := fun _ => True) (okp := fun _ => True) ?hr ?hp (fun _ hk => hk) trivial (Below.refl _ _) (Nat.le_refl _) (by simp) ?_; (case hd => rfl); (case hg => rfl); (case hr => first | (go_simp; done) | (go_simp; rfl)); (case hp => exact (Reps.one (show Kd.M (Kd.int .i64) _ _ _ ji14 [.int .i64 ji14] from rfl) (Reps.none _ _)))
        intro v196 w33 ho34 hb hg_ hnew_
        clear hg_ hnew_
        (first | rw [← Ny195.out] at ho34 | (simp only [Int.reduceToNat] at ho34; rw [← Ny195.out] at ho34))
        have n0_ := Aside0.mk (Kd.R_elder' (qR HO_186000.out) (Kd.R_base ho34) hb)
        have n1_ := Aside0.mk (Kd.R_elder' (qR HO_186001.out) (Kd.R_base ho34) hb)
        have n2_ := Aside0.mk (Kd.R_elder' (qR HO_186002.out) (Kd.R_base ho34) hb)
        have n3_ := Aside0.mk (Kd.R_elder' (qR HO_186003.out) (Kd.R_base ho34) hb)
        have n4_ := Aside0.mk (Kd.R_elder' (qR HO191.out) (Kd.R_base ho34) hb)
        have n5_ := Aside0.mk (Kd.R_lower (Kd.R_new' (Kd.R_new' (Kd.R_new' (Kd.R_new' (Kd.R_new' ho34 (Kd.R_lt (qR HO_186000.out))) (Kd.R_lt (qR HO_186001.out))) (Kd.R_lt (qR HO_186002.out))) (Kd.R_lt (qR HO_186003.out))) (Kd.R_lt (qR HO191.out))) (below_size (qW HB.out)))
        have n6_ := Aside0.mk (blk_below (qB BK182.out) hb)
        have n7_ := Aside0.mk (blk_below (qB BK183.out) hb)
        have n8_ := Aside0.mk (blk_below (qB BK185.out) hb)
        have n9_ := Aside0.mk (below_step (qW HB.out) hb)
        clear HO_186000 HO_186001 HO_186002 HO_186003 HO191 BK182 BK183 BK185 HB
        have HO_186000 := n0_
        have HO_186001 := n1_
        have HO_186002 := n2_
        have HO_186003 := n3_
        have HO191 := n4_
        have HO197 := n5_
        have BK182 := n6_
        have BK183 := n7_
        have BK185 := n8_
        have HB := n9_
        clear n0_ n1_ n2_ n3_ n4_ n5_ n6_ n7_ n8_ n9_ hb ho34
        obtain ⟨Ao36, co36, eo36⟩ := Kd.R_slice HO191.out
        (first | subst eo36 | (injection eo36 with f1_ f2_ f3_; have f4_ := f1_.symm; have f5_ := f3_.symm; clear f1_ f2_ f3_; subst f4_; subst f5_))
        refine hK.out _ _ ⟨(blk_cell BK185.out 0).trans rfl, (blk_cell BK185.out 1).trans rfl, (blk_cell BK185.out 2).trans rfl, (blk_cell BK185.out 3).trans rfl, (blk_cell BK185.out 4).trans rfl⟩ (fun hHeld => ?_); clear hK K
        refine norm_ (a' := ?_) ?_ ?_; rotate_left
        ·show Act.put _ (some 72) _ = _
         simp only [Act.put, List.setIfInBounds_toArray, List.set_cons_zero, List.set_cons_succ, i64_w, i32_w]
         rfl
        refine one_ (i := 4) (N := some 68) #[true, true, true, true, true, true, true, true, true, false, false, false, false, false] rfl rfl (one_of HT_.out (by kernel_rfl)) (by decide) (fun K hK => ?_)
        refine Kd.R_append_rows_step (Kd.int .i64) (w0 := w) w.heap.size (by rfl) (.tmp 65) (.tmp 67) 22 3 (.int .i64 0) 8 rfl Try.underlying22 info3 rfl (by decide) (by omega) (.slice Ao28 x186000_1.length co28) x186000_1 y189 _ _ _ (fun k_ => some k_ ≠ (.slice Ao29 x186001_1.length co29 : Value).ownBlock ∧ some k_ ≠ (u186002 : Value).ownBlock ∧ some k_ ≠ (u186003 : Value).ownBlock ∧ some k_ ≠ (.slice Ao36 y189.length co36 : Value).ownBlock ∧ some k_ ≠ (v196 : Value).ownBlock) (fun _ => False) rfl rfl ?aO ?aR (fun _ _ h => h) (fun _ h => h.elim) ?aF ?aB ?aS ?aL ?_
        (case aR => repeat (first | exact (Kd.R_reads' HO191.out).2.2 | (with_reducible refine Kd.C_alloc ?_ _) | (with_reducible refine Kd.C_drewN ?_ _) | (with_reducible refine Kd.C_drew ?_)))
        (case aB => exact (qW HB.out))
        (case aF => exact (fun k_ hk => ⟨Kd.fresh' (Kd.R_lt (qR HO_186001.out)) k_ hk, Kd.fresh' (Kd.R_lt (qR HO_186002.out)) k_ hk, Kd.fresh' (Kd.R_lt (qR HO_186003.out)) k_ hk, Kd.fresh' (Kd.R_lt (qR HO191.out)) k_ hk, Kd.fresh' (Kd.R_lt (qR HO197.out)) k_ hk⟩))
        (case aO => exact (qR (Kd.R_mono HO_186000.out (fun _ hk => ⟨hk.1.1.1, ⟨hk.1.1.2.1, ⟨hk.1.1.2.2, ⟨hk.1.2, hk.2⟩⟩⟩⟩))))
        (case aS => exact (below_size (qW HB.out)))
        (case aL => have := LMc26.out; omega)
        intro v193 w35 ho hb hg hat
        rw [← Ny192.out] at ho
        have n0_ := Aside0.mk (Kd.R_after (ok := (fun k_ => some k_ ≠ (u186002 : Value).ownBlock ∧ some k_ ≠ (u186003 : Value).ownBlock ∧ some k_ ≠ (.slice Ao36 y189.length co36 : Value).ownBlock ∧ some k_ ≠ (v196 : Value).ownBlock)) (qR (Kd.R_mono HO_186001.out (fun _ hk => ⟨⟨hk.1.1.2.1, ⟨hk.1.1.2.2, ⟨hk.1.2, hk.2⟩⟩⟩, hk.1.1.1⟩))) hg hat)
        have n1_ := Aside0.mk (Kd.R_after (ok := (fun k_ => some k_ ≠ (.slice Ao29 x186001_1.length co29 : Value).ownBlock ∧ some k_ ≠ (u186003 : Value).ownBlock ∧ some k_ ≠ (.slice Ao36 y189.length co36 : Value).ownBlock ∧ some k_ ≠ (v196 : Value).ownBlock)) (qR (Kd.R_mono HO_186002.out (fun _ hk => ⟨⟨hk.1.1.2.1, ⟨hk.1.1.2.2, ⟨hk.1.2, hk.2⟩⟩⟩, hk.1.1.1⟩))) hg hat)
        have n2_ := Aside0.mk (Kd.R_after (ok := (fun k_ => some k_ ≠ (.slice Ao29 x186001_1.length co29 : Value).ownBlock ∧ some k_ ≠ (u186002 : Value).ownBlock ∧ some k_ ≠ (.slice Ao36 y189.length co36 : Value).ownBlock ∧ some k_ ≠ (v196 : Value).ownBlock)) (qR (Kd.R_mono HO_186003.out (fun _ hk => ⟨⟨hk.1.1.2.1, ⟨hk.1.1.2.2, ⟨hk.1.2, hk.2⟩⟩⟩, hk.1.1.1⟩))) hg hat)
        have n3_ := Aside0.mk (blk_grown (qB BK182.out) hg (Kd.R_ne HO_186000.out BK182.out (by decide)))
        have n4_ := Aside0.mk (blk_grown (qB BK183.out) hg (Kd.R_ne HO_186000.out BK183.out (by decide)))
        have n5_ := Aside0.mk (blk_grown (qB BK185.out) hg (Kd.R_ne HO_186000.out BK185.out (by decide)))
        have n6_ := Aside0.mk (Kd.R_after (ok := (fun k_ => some k_ ≠ (.slice Ao29 x186001_1.length co29 : Value).ownBlock ∧ some k_ ≠ (u186002 : Value).ownBlock ∧ some k_ ≠ (u186003 : Value).ownBlock ∧ some k_ ≠ (v196 : Value).ownBlock)) (qR (Kd.R_mono HO191.out (fun _ hk => ⟨⟨hk.1.1.1.2, ⟨hk.1.1.2, ⟨hk.1.2, hk.2⟩⟩⟩, hk.1.1.1.1.2⟩))) hg hat)
        have n7_ := Aside0.mk (Kd.R_after (ok := (fun k_ => some k_ ≠ (.slice Ao29 x186001_1.length co29 : Value).ownBlock ∧ some k_ ≠ (u186002 : Value).ownBlock ∧ some k_ ≠ (u186003 : Value).ownBlock ∧ some k_ ≠ (.slice Ao36 y189.length co36 : Value).ownBlock)) (qR (Kd.R_mono HO197.out (fun _ hk => ⟨⟨hk.1.1.1.2, ⟨hk.1.1.2, ⟨hk.1.2, hk.2⟩⟩⟩, hk.1.1.1.1.2⟩))) hg hat)
        have n8_ := Aside0.mk (hb)
        have n9_ := Aside0.mk (ho)
        clear HO_186001 HO_186002 HO_186003 BK182 BK183 BK185 HO191 HO197 HB HO_186000
        have HO_186001 := n0_
        have HO_186002 := n1_
        have HO_186003 := n2_
        have BK182 := n3_
        have BK183 := n4_
        have BK185 := n5_
        have HO191 := n6_
        have HO197 := n7_
        have HB := n8_
        have HO194 := n9_
        clear n0_ n1_ n2_ n3_ n4_ n5_ n6_ n7_ n8_ n9_ ho hb hg hat
        refine hK.out _ _ ⟨(blk_cell BK185.out 0).trans rfl, (blk_cell BK185.out 1).trans rfl, (blk_cell BK185.out 2).trans rfl, (blk_cell BK185.out 3).trans rfl, (blk_cell BK185.out 4).trans rfl⟩ (fun hHeld => ?_); clear hK K
        refine norm_ (a' := ?_) ?_ ?_; rotate_left
        ·show Act.put _ (some 68) _ = _
         simp only [Act.put, List.setIfInBounds_toArray, List.set_cons_zero, List.set_cons_succ, i64_w, i32_w]
         rfl
        refine pS (i := 10) (N := some 74) #[true, true, true, true, true, true, true, true, true, false, true, false, false, false] rfl rfl HT_.out ?_
        exact norm_ (by simp only [putAll, Act.put, List.setIfInBounds_toArray, List.set_cons_zero, List.set_cons_succ]) (hCont (.slice Ao36 y189.length co36, v193, v196) _ ⟨hHeld, (qR (Kd.R_mono HO191.out (fun _ hk => ⟨hk.2, ⟨hk.1.2.2.2, ⟨hk.1.1, ⟨hk.1.2.1, hk.1.2.2.1⟩⟩⟩⟩))), (qR (Kd.R_mono HO194.out (fun _ hk => ⟨hk.2.2.2.1, ⟨hk.2.2.2.2, ⟨hk.1, ⟨hk.2.1, hk.2.2.1⟩⟩⟩⟩))), (qR (Kd.R_mono HO197.out (fun _ hk => ⟨hk.1.2.2.2, ⟨hk.2, ⟨hk.1.1, ⟨hk.1.2.1, hk.1.2.2.1⟩⟩⟩⟩))), (qR (Kd.R_mono HO_186001.out (fun _ hk => ⟨hk.1.2.2.1, ⟨hk.2, ⟨hk.1.2.2.2, ⟨hk.1.1, hk.1.2.1⟩⟩⟩⟩))), (qR (Kd.R_mono HO_186002.out (fun _ hk => ⟨hk.1.2.2.1, ⟨hk.2, ⟨hk.1.2.2.2, ⟨hk.1.1, hk.1.2.1⟩⟩⟩⟩))), (qR (Kd.R_mono HO_186003.out (fun _ hk => ⟨hk.1.2.2.1, ⟨hk.2, ⟨hk.1.2.2.2, ⟨hk.1.1, hk.1.2.1⟩⟩⟩⟩))), (qB BK182.out), (qB BK183.out), (qB BK185.out), (qW HB.out)⟩)
      ·skip
       refine Kd.R_lit_step (Kd.int .i64) _ 3 ?hg (N := 72) ?hd (xs := ([ji14] : List Int)) (inner := [.int .i64 ji14]) (ok := fun _ => True) (okp := fun _ => True) ?hr ?hp (fun _ hk => hk) trivial (Below.refl _ _) (Nat.le_refl _) (by simp) ?_; (case hd => rfl); (case hg => rfl); (case hr => first | (go_simp; done) | (go_simp; rfl)); (case hp => exact (Reps.one (show Kd.M (Kd.int .i64) _ _ _ ji14 [.int .i64 ji14] from rfl) (Reps.none _ _)))
       intro v196 w31 ho32 hb hg_ hnew_
       clear hg_ hnew_
       (first | rw [← Ny195.out] at ho32 | (simp only [Int.reduceToNat] at ho32; rw [← Ny195.out] at ho32))
       have n0_ := Aside0.mk (Kd.R_elder' (qR HO_186000.out) (Kd.R_base ho32) hb)
       have n1_ := Aside0.mk (Kd.R_elder' (qR HO_186001.out) (Kd.R_base ho32) hb)
       have n2_ := Aside0.mk (Kd.R_elder' (qR HO_186002.out) (Kd.R_base ho32) hb)
       have n3_ := Aside0.mk (Kd.R_elder' (qR HO_186003.out) (Kd.R_base ho32) hb)
       have n4_ := Aside0.mk (Kd.R_lower (Kd.R_new' (Kd.R_new' (Kd.R_new' (Kd.R_new' ho32 (Kd.R_lt (qR HO_186000.out))) (Kd.R_lt (qR HO_186001.out))) (Kd.R_lt (qR HO_186002.out))) (Kd.R_lt (qR HO_186003.out))) (below_size (qW HB.out)))
       have n5_ := Aside0.mk (blk_below (qB BK182.out) hb)
       have n6_ := Aside0.mk (blk_below (qB BK183.out) hb)
       have n7_ := Aside0.mk (blk_below (qB BK185.out) hb)
       have n8_ := Aside0.mk (below_step (qW HB.out) hb)
       clear HO_186000 HO_186001 HO_186002 HO_186003 BK182 BK183 BK185 HB
       have HO_186000 := n0_
       have HO_186001 := n1_
       have HO_186002 := n2_
       have HO_186003 := n3_
       have HO197 := n4_
       have BK182 := n5_
       have BK183 := n6_
       have BK185 := n7_
       have HB := n8_
       clear n0_ n1_ n2_ n3_ n4_ n5_ n6_ n7_ n8_ hb ho32
       refine hK.out _ _ ⟨(blk_cell BK185.out 0).trans rfl, (blk_cell BK185.out 1).trans rfl, (blk_cell BK185.out 2).trans rfl, (blk_cell BK185.out 3).trans rfl, (blk_cell BK185.out 4).trans rfl⟩ (fun hHeld => ?_); clear hK K
       refine norm_ (a' := ?_) ?_ ?_; rotate_left
       ·show Act.put _ (some 72) _ = _
        simp only [Act.put, List.setIfInBounds_toArray, List.set_cons_zero, List.set_cons_succ, i64_w, i32_w]
        rfl
       refine one_ (i := 3) (N := some 67) #[true, true, true, true, false, true, true, true, true, false, false, false, false, false] rfl rfl (one_of HT_.out (by kernel_rfl)) (by decide) (fun K hK => ?_)
       refine Kd.R_lit_step (Kd.int .i64) _ 3 ?hg (N := 67) ?hd (xs := ([wrap64 ((wrap64 (x9_1 + 1)) * a0_2)] : List Int)) (inner := [.int .i64 (wrap64 ((wrap64 (x9_1 + 1)) * a0_2))]) (ok := fun _ => True) (okp := fun _ => True) ?hr ?hp (fun _ hk => hk) trivial (Below.refl _ _) (Nat.le_refl _) (by simp) ?_; (case hd => rfl); (case hg => rfl); (case hr => first | (go_simp; done) | (go_simp; rfl)); (case hp => exact (Reps.one (show Kd.M (Kd.int .i64) _ _ _ (wrap64 ((wrap64 (x9_1 + 1)) * a0_2)) [.int .i64 (wrap64 ((wrap64 (x9_1 + 1)) * a0_2))] from rfl) (Reps.none _ _)))
       intro v190 w33 ho34 hb hg_ hnew_
       clear hg_ hnew_
       (first | rw [← Ny189.out] at ho34 | (simp only [Int.reduceToNat] at ho34; rw [← Ny189.out] at ho34))
       have n0_ := Aside0.mk (Kd.R_elder' (qR HO_186000.out) (Kd.R_base ho34) hb)
       have n1_ := Aside0.mk (Kd.R_elder' (qR HO_186001.out) (Kd.R_base ho34) hb)
       have n2_ := Aside0.mk (Kd.R_elder' (qR HO_186002.out) (Kd.R_base ho34) hb)
       have n3_ := Aside0.mk (Kd.R_elder' (qR HO_186003.out) (Kd.R_base ho34) hb)
       have n4_ := Aside0.mk (Kd.R_elder' (qR HO197.out) (Kd.R_base ho34) hb)
       have n5_ := Aside0.mk (Kd.R_lower (Kd.R_new' (Kd.R_new' (Kd.R_new' (Kd.R_new' (Kd.R_new' ho34 (Kd.R_lt (qR HO_186000.out))) (Kd.R_lt (qR HO_186001.out))) (Kd.R_lt (qR HO_186002.out))) (Kd.R_lt (qR HO_186003.out))) (Kd.R_lt (qR HO197.out))) (below_size (qW HB.out)))
       have n6_ := Aside0.mk (blk_below (qB BK182.out) hb)
       have n7_ := Aside0.mk (blk_below (qB BK183.out) hb)
       have n8_ := Aside0.mk (blk_below (qB BK185.out) hb)
       have n9_ := Aside0.mk (below_step (qW HB.out) hb)
       clear HO_186000 HO_186001 HO_186002 HO_186003 HO197 BK182 BK183 BK185 HB
       have HO_186000 := n0_
       have HO_186001 := n1_
       have HO_186002 := n2_
       have HO_186003 := n3_
       have HO197 := n4_
       have HO191 := n5_
       have BK182 := n6_
       have BK183 := n7_
       have BK185 := n8_
       have HB := n9_
       clear n0_ n1_ n2_ n3_ n4_ n5_ n6_ n7_ n8_ n9_ hb ho34
       obtain ⟨Ao36, co36, eo36⟩ := Kd.R_slice HO191.out
       (first | subst eo36 | (injection eo36 with f1_ f2_ f3_; have f4_ := f1_.symm; have f5_ := f3_.symm; clear f1_ f2_ f3_; subst f4_; subst f5_))
       refine hK.out _ _ ⟨(blk_cell BK185.out 0).trans rfl, (blk_cell BK185.out 1).trans rfl, (blk_cell BK185.out 2).trans rfl, (blk_cell BK185.out 3).trans rfl, (blk_cell BK185.out 4).trans rfl⟩ (fun hHeld => ?_); clear hK K
       refine norm_ (a' := ?_) ?_ ?_; rotate_left
       ·show Act.put _ (some 67) _ = _
        simp only [Act.put, List.setIfInBounds_toArray, List.set_cons_zero, List.set_cons_succ, i64_w, i32_w]
        rfl
       refine one_ (i := 4) (N := some 68) #[true, true, true, true, true, true, true, true, true, false, false, false, false, false] rfl rfl (one_of HT_.out (by kernel_rfl)) (by decide) (fun K hK => ?_)
       refine Kd.R_append_rows_step (Kd.int .i64) (w0 := w) w.heap.size (by rfl) (.tmp 65) (.tmp 67) 22 3 (.int .i64 0) 8 rfl Try.underlying22 info3 rfl (by decide) (by omega) (.slice Ao28 x186000_1.length co28) x186000_1 y189 _ _ _ (fun k_ => some k_ ≠ (.slice Ao29 x186001_1.length co29 : Value).ownBlock ∧ some k_ ≠ (u186002 : Value).ownBlock ∧ some k_ ≠ (u186003 : Value).ownBlock ∧ some k_ ≠ (v196 : Value).ownBlock ∧ some k_ ≠ (.slice Ao36 y189.length co36 : Value).ownBlock) (fun _ => False) rfl rfl ?aO ?aR (fun _ _ h => h) (fun _ h => h.elim) ?aF ?aB ?aS ?aL ?_
       (case aR => repeat (first | exact (Kd.R_reads' HO191.out).2.2 | (with_reducible refine Kd.C_alloc ?_ _) | (with_reducible refine Kd.C_drewN ?_ _) | (with_reducible refine Kd.C_drew ?_)))
       (case aB => exact (qW HB.out))
       (case aF => exact (fun k_ hk => ⟨Kd.fresh' (Kd.R_lt (qR HO_186001.out)) k_ hk, Kd.fresh' (Kd.R_lt (qR HO_186002.out)) k_ hk, Kd.fresh' (Kd.R_lt (qR HO_186003.out)) k_ hk, Kd.fresh' (Kd.R_lt (qR HO197.out)) k_ hk, Kd.fresh' (Kd.R_lt (qR HO191.out)) k_ hk⟩))
       (case aO => exact (qR (Kd.R_mono HO_186000.out (fun _ hk => ⟨hk.1.1.1, ⟨hk.1.1.2.1, ⟨hk.1.1.2.2, ⟨hk.1.2, hk.2⟩⟩⟩⟩))))
       (case aS => exact (below_size (qW HB.out)))
       (case aL => have := LMc26.out; omega)
       intro v193 w35 ho hb hg hat
       rw [← Ny192.out] at ho
       have n0_ := Aside0.mk (Kd.R_after (ok := (fun k_ => some k_ ≠ (u186002 : Value).ownBlock ∧ some k_ ≠ (u186003 : Value).ownBlock ∧ some k_ ≠ (v196 : Value).ownBlock ∧ some k_ ≠ (.slice Ao36 y189.length co36 : Value).ownBlock)) (qR (Kd.R_mono HO_186001.out (fun _ hk => ⟨⟨hk.1.1.2.1, ⟨hk.1.1.2.2, ⟨hk.1.2, hk.2⟩⟩⟩, hk.1.1.1⟩))) hg hat)
       have n1_ := Aside0.mk (Kd.R_after (ok := (fun k_ => some k_ ≠ (.slice Ao29 x186001_1.length co29 : Value).ownBlock ∧ some k_ ≠ (u186003 : Value).ownBlock ∧ some k_ ≠ (v196 : Value).ownBlock ∧ some k_ ≠ (.slice Ao36 y189.length co36 : Value).ownBlock)) (qR (Kd.R_mono HO_186002.out (fun _ hk => ⟨⟨hk.1.1.2.1, ⟨hk.1.1.2.2, ⟨hk.1.2, hk.2⟩⟩⟩, hk.1.1.1⟩))) hg hat)
       have n2_ := Aside0.mk (Kd.R_after (ok := (fun k_ => some k_ ≠ (.slice Ao29 x186001_1.length co29 : Value).ownBlock ∧ some k_ ≠ (u186002 : Value).ownBlock ∧ some k_ ≠ (v196 : Value).ownBlock ∧ some k_ ≠ (.slice Ao36 y189.length co36 : Value).ownBlock)) (qR (Kd.R_mono HO_186003.out (fun _ hk => ⟨⟨hk.1.1.2.1, ⟨hk.1.1.2.2, ⟨hk.1.2, hk.2⟩⟩⟩, hk.1.1.1⟩))) hg hat)
       have n3_ := Aside0.mk (blk_grown (qB BK182.out) hg (Kd.R_ne HO_186000.out BK182.out (by decide)))
       have n4_ := Aside0.mk (blk_grown (qB BK183.out) hg (Kd.R_ne HO_186000.out BK183.out (by decide)))
       have n5_ := Aside0.mk (blk_grown (qB BK185.out) hg (Kd.R_ne HO_186000.out BK185.out (by decide)))
       have n6_ := Aside0.mk (Kd.R_after (ok := (fun k_ => some k_ ≠ (.slice Ao29 x186001_1.length co29 : Value).ownBlock ∧ some k_ ≠ (u186002 : Value).ownBlock ∧ some k_ ≠ (u186003 : Value).ownBlock ∧ some k_ ≠ (.slice Ao36 y189.length co36 : Value).ownBlock)) (qR (Kd.R_mono HO197.out (fun _ hk => ⟨⟨hk.1.1.1.2, ⟨hk.1.1.2, ⟨hk.1.2, hk.2⟩⟩⟩, hk.1.1.1.1.2⟩))) hg hat)
       have n7_ := Aside0.mk (Kd.R_after (ok := (fun k_ => some k_ ≠ (.slice Ao29 x186001_1.length co29 : Value).ownBlock ∧ some k_ ≠ (u186002 : Value).ownBlock ∧ some k_ ≠ (u186003 : Value).ownBlock ∧ some k_ ≠ (v196 : Value).ownBlock)) (qR (Kd.R_mono HO191.out (fun _ hk => ⟨⟨hk.1.1.1.2, ⟨hk.1.1.2, ⟨hk.1.2, hk.2⟩⟩⟩, hk.1.1.1.1.2⟩))) hg hat)
       have n8_ := Aside0.mk (hb)
       have n9_ := Aside0.mk (ho)
       clear HO_186001 HO_186002 HO_186003 BK182 BK183 BK185 HO197 HO191 HB HO_186000
       have HO_186001 := n0_
       have HO_186002 := n1_
       have HO_186003 := n2_
       have BK182 := n3_
       have BK183 := n4_
       have BK185 := n5_
       have HO197 := n6_
       have HO191 := n7_
       have HB := n8_
       have HO194 := n9_
       clear n0_ n1_ n2_ n3_ n4_ n5_ n6_ n7_ n8_ n9_ ho hb hg hat
       refine hK.out _ _ ⟨(blk_cell BK185.out 0).trans rfl, (blk_cell BK185.out 1).trans rfl, (blk_cell BK185.out 2).trans rfl, (blk_cell BK185.out 3).trans rfl, (blk_cell BK185.out 4).trans rfl⟩ (fun hHeld => ?_); clear hK K
       refine norm_ (a' := ?_) ?_ ?_; rotate_left
       ·show Act.put _ (some 68) _ = _
        simp only [Act.put, List.setIfInBounds_toArray, List.set_cons_zero, List.set_cons_succ, i64_w, i32_w]
        rfl
       refine pS (i := 10) (N := some 74) #[true, true, true, true, true, true, true, true, true, false, true, false, false, false] rfl rfl HT_.out ?_
       exact norm_ (by simp only [putAll, Act.put, List.setIfInBounds_toArray, List.set_cons_zero, List.set_cons_succ]) (hCont (.slice Ao36 y189.length co36, v193, v196) _ ⟨hHeld, (qR (Kd.R_mono HO191.out (fun _ hk => ⟨hk.2, ⟨hk.1.2.2.2, ⟨hk.1.1, ⟨hk.1.2.1, hk.1.2.2.1⟩⟩⟩⟩))), (qR (Kd.R_mono HO194.out (fun _ hk => ⟨hk.2.2.2.2, ⟨hk.2.2.2.1, ⟨hk.1, ⟨hk.2.1, hk.2.2.1⟩⟩⟩⟩))), (qR (Kd.R_mono HO197.out (fun _ hk => ⟨hk.1.2.2.2, ⟨hk.2, ⟨hk.1.1, ⟨hk.1.2.1, hk.1.2.2.1⟩⟩⟩⟩))), (qR (Kd.R_mono HO_186001.out (fun _ hk => ⟨hk.1.2.2.2, ⟨hk.2, ⟨hk.1.2.2.1, ⟨hk.1.1, hk.1.2.1⟩⟩⟩⟩))), (qR (Kd.R_mono HO_186002.out (fun _ hk => ⟨hk.1.2.2.2, ⟨hk.2, ⟨hk.1.2.2.1, ⟨hk.1.1, hk.1.2.1⟩⟩⟩⟩))), (qR (Kd.R_mono HO_186003.out (fun _ hk => ⟨hk.1.2.2.2, ⟨hk.2, ⟨hk.1.2.2.1, ⟨hk.1.1, hk.1.2.1⟩⟩⟩⟩))), (qB BK182.out), (qB BK183.out), (qB BK185.out), (qW HB.out)⟩)
     rintro ⟨v190, v193, v196⟩ w37 ⟨hS_, h0_, h1_, h2_, h3_, h4_, h5_, h6_, h7_, h8_, h9_⟩
     have n0_ : Aside0 (Kd.R (Kd.int .i64) 3 w37 w.heap.size (fun k_ => some k_ ≠ (v193 : Value).ownBlock ∧ some k_ ≠ (v196 : Value).ownBlock ∧ some k_ ≠ (.slice Ao29 x186001_1.length co29 : Value).ownBlock ∧ some k_ ≠ (u186002 : Value).ownBlock ∧ some k_ ≠ (u186003 : Value).ownBlock) v190 y189) := ⟨h0_⟩
     have n1_ : Aside0 (Kd.R (Kd.int .i64) 3 w37 w.heap.size (fun k_ => some k_ ≠ (v190 : Value).ownBlock ∧ some k_ ≠ (v196 : Value).ownBlock ∧ some k_ ≠ (.slice Ao29 x186001_1.length co29 : Value).ownBlock ∧ some k_ ≠ (u186002 : Value).ownBlock ∧ some k_ ≠ (u186003 : Value).ownBlock) v193 y192) := ⟨h1_⟩
     have n2_ : Aside0 (Kd.R (Kd.int .i64) 3 w37 w.heap.size (fun k_ => some k_ ≠ (v190 : Value).ownBlock ∧ some k_ ≠ (v193 : Value).ownBlock ∧ some k_ ≠ (.slice Ao29 x186001_1.length co29 : Value).ownBlock ∧ some k_ ≠ (u186002 : Value).ownBlock ∧ some k_ ≠ (u186003 : Value).ownBlock) v196 y195) := ⟨h2_⟩
     have n3_ : Aside0 (Kd.R (Kd.int .i64) 3 w37 w.heap.size (fun k_ => some k_ ≠ (v190 : Value).ownBlock ∧ some k_ ≠ (v193 : Value).ownBlock ∧ some k_ ≠ (v196 : Value).ownBlock ∧ some k_ ≠ (u186002 : Value).ownBlock ∧ some k_ ≠ (u186003 : Value).ownBlock) (.slice Ao29 x186001_1.length co29) x186001_1) := ⟨h3_⟩
     have n4_ : Aside0 (Kd.R (Kd.int .i64) 3 w37 w.heap.size (fun k_ => some k_ ≠ (v190 : Value).ownBlock ∧ some k_ ≠ (v193 : Value).ownBlock ∧ some k_ ≠ (v196 : Value).ownBlock ∧ some k_ ≠ (.slice Ao29 x186001_1.length co29 : Value).ownBlock ∧ some k_ ≠ (u186003 : Value).ownBlock) u186002 x186002_1) := ⟨h4_⟩
     have n5_ : Aside0 (Kd.R (Kd.int .i64) 3 w37 w.heap.size (fun k_ => some k_ ≠ (v190 : Value).ownBlock ∧ some k_ ≠ (v193 : Value).ownBlock ∧ some k_ ≠ (v196 : Value).ownBlock ∧ some k_ ≠ (.slice Ao29 x186001_1.length co29 : Value).ownBlock ∧ some k_ ≠ (u186002 : Value).ownBlock) u186003 x186003_1) := ⟨h5_⟩
     have n6_ : Aside0 (w37.heap[gb182]? = some (.cells #[.slice A0_0 l0_0.length c0_0, .slice A0_1 l0_1.length c0_1, .int .i64 a0_2, .int .i64 a0_3, .int .i64 a0_4] 24 (0, 0))) := ⟨h6_⟩
     have n7_ : Aside0 (w37.heap[gb183]? = some (.cells #[.slice none 0 0, .slice none 0 0, .slice none 0 0, .slice none 0 0, .int .i64 x184004_1] 28 (0, 0))) := ⟨h7_⟩
     have n8_ : Aside0 (w37.heap[gb185]? = some (.cells #[.slice Ao28 x186000_1.length co28, .slice Ao29 x186001_1.length co29, u186002, u186003, .int .i64 x186004_1] 28 (0, 0))) := ⟨h8_⟩
     have n9_ : Aside0 (Below w.heap.size w w37) := ⟨h9_⟩
     clear HO_186000 HO_186001 HO_186002 HO_186003 BK182 BK183 BK185 HB h0_ h1_ h2_ h3_ h4_ h5_ h6_ h7_ h8_ h9_
     have HO191 := n0_
     have HO194 := n1_
     have HO197 := n2_
     have HO_186001 := n3_
     have HO_186002 := n4_
     have HO_186003 := n5_
     have BK182 := n6_
     have BK183 := n7_
     have BK185 := n8_
     have HB := n9_
     clear n0_ n1_ n2_ n3_ n4_ n5_ n6_ n7_ n8_ n9_
     have hHeld : w37.cell? ⟨gb185, 0, none⟩ = some (.slice Ao28 x186000_1.length co28) ∧ w37.cell? ⟨gb185, 1, none⟩ = some (.slice Ao29 x186001_1.length co29) ∧ w37.cell? ⟨gb185, 2, none⟩ = some (u186002) ∧ w37.cell? ⟨gb185, 3, none⟩ = some (u186003) ∧ w37.cell? ⟨gb185, 4, none⟩ = some (.int .i64 x186004_1) := hS_
     obtain ⟨Ao39, co39, eo39⟩ := Kd.R_slice HO197.out
     (first | subst eo39 | (injection eo39 with f1_ f2_ f3_; have f4_ := f1_.symm; have f5_ := f3_.symm; clear f1_ f2_ f3_; subst f4_; subst f5_))
     refine norm_ (a' := ?_) ?_ ?_; rotate_left
     ·simp only [putAll, Act.put, List.setIfInBounds_toArray, List.set_cons_zero, List.set_cons_succ]
      rfl
     refine one_ (i := 9) (N := some 73) #[true, true, true, true, true, true, true, true, true, true, true, false, false, false] rfl rfl (one_of HT_.out (by kernel_rfl)) (by decide) (fun K hK => ?_)
     refine Kd.R_append_rows_step (Kd.int .i64) (w0 := w) w.heap.size (by rfl) (.tmp 70) (.tmp 72) 22 3 (.int .i64 0) 8 rfl Try.underlying22 info3 rfl (by decide) (by omega) (.slice Ao29 x186001_1.length co29) x186001_1 y195 _ _ _ (fun k_ => some k_ ≠ (u186002 : Value).ownBlock ∧ some k_ ≠ (u186003 : Value).ownBlock ∧ some k_ ≠ (v190 : Value).ownBlock ∧ some k_ ≠ (v193 : Value).ownBlock ∧ some k_ ≠ (.slice Ao39 y195.length co39 : Value).ownBlock) (fun _ => False) rfl rfl ?aO ?aR (fun _ _ h => h) (fun _ h => h.elim) ?aF ?aB ?aS ?aL ?_
     (case aR => repeat (first | exact (Kd.R_reads' HO197.out).2.2 | (with_reducible refine Kd.C_alloc ?_ _) | (with_reducible refine Kd.C_drewN ?_ _) | (with_reducible refine Kd.C_drew ?_)))
     (case aB => exact (qW HB.out))
     (case aF => exact (fun k_ hk => ⟨Kd.fresh' (Kd.R_lt (qR HO_186002.out)) k_ hk, Kd.fresh' (Kd.R_lt (qR HO_186003.out)) k_ hk, Kd.fresh' (Kd.R_lt (qR HO191.out)) k_ hk, Kd.fresh' (Kd.R_lt (qR HO194.out)) k_ hk, Kd.fresh' (Kd.R_lt (qR HO197.out)) k_ hk⟩))
     (case aO => exact (qR (Kd.R_mono HO_186001.out (fun _ hk => ⟨hk.2.2.2.1, ⟨hk.2.2.2.2, ⟨hk.1, ⟨hk.2.1, hk.2.2.1⟩⟩⟩⟩))))
     (case aS => exact (below_size (qW HB.out)))
     (case aL => have := LMc27.out; omega)
     intro v199 w38 ho hb hg hat
     rw [← Ny198.out] at ho
     have n0_ := Aside0.mk (Kd.R_after (ok := (fun k_ => some k_ ≠ (u186003 : Value).ownBlock ∧ some k_ ≠ (v190 : Value).ownBlock ∧ some k_ ≠ (v193 : Value).ownBlock ∧ some k_ ≠ (.slice Ao39 y195.length co39 : Value).ownBlock)) (qR (Kd.R_mono HO_186002.out (fun _ hk => ⟨⟨hk.2.2.2.2, ⟨hk.1, ⟨hk.2.1, hk.2.2.1⟩⟩⟩, hk.2.2.2.1⟩))) hg hat)
     have n1_ := Aside0.mk (Kd.R_after (ok := (fun k_ => some k_ ≠ (u186002 : Value).ownBlock ∧ some k_ ≠ (v190 : Value).ownBlock ∧ some k_ ≠ (v193 : Value).ownBlock ∧ some k_ ≠ (.slice Ao39 y195.length co39 : Value).ownBlock)) (qR (Kd.R_mono HO_186003.out (fun _ hk => ⟨⟨hk.2.2.2.2, ⟨hk.1, ⟨hk.2.1, hk.2.2.1⟩⟩⟩, hk.2.2.2.1⟩))) hg hat)
     have n2_ := Aside0.mk (blk_grown (qB BK182.out) hg (Kd.R_ne HO_186001.out BK182.out (by decide)))
     have n3_ := Aside0.mk (blk_grown (qB BK183.out) hg (Kd.R_ne HO_186001.out BK183.out (by decide)))
     have n4_ := Aside0.mk (blk_grown (qB BK185.out) hg (Kd.R_ne HO_186001.out BK185.out (by decide)))
     have n5_ := Aside0.mk (Kd.R_after (ok := (fun k_ => some k_ ≠ (u186002 : Value).ownBlock ∧ some k_ ≠ (u186003 : Value).ownBlock ∧ some k_ ≠ (v193 : Value).ownBlock ∧ some k_ ≠ (.slice Ao39 y195.length co39 : Value).ownBlock)) (qR (Kd.R_mono HO191.out (fun _ hk => ⟨⟨hk.2.2.2.1, ⟨hk.2.2.2.2, ⟨hk.1, hk.2.1⟩⟩⟩, hk.2.2.1⟩))) hg hat)
     have n6_ := Aside0.mk (Kd.R_after (ok := (fun k_ => some k_ ≠ (u186002 : Value).ownBlock ∧ some k_ ≠ (u186003 : Value).ownBlock ∧ some k_ ≠ (v190 : Value).ownBlock ∧ some k_ ≠ (.slice Ao39 y195.length co39 : Value).ownBlock)) (qR (Kd.R_mono HO194.out (fun _ hk => ⟨⟨hk.2.2.2.1, ⟨hk.2.2.2.2, ⟨hk.1, hk.2.1⟩⟩⟩, hk.2.2.1⟩))) hg hat)
     have n7_ := Aside0.mk (Kd.R_after (ok := (fun k_ => some k_ ≠ (u186002 : Value).ownBlock ∧ some k_ ≠ (u186003 : Value).ownBlock ∧ some k_ ≠ (v190 : Value).ownBlock ∧ some k_ ≠ (v193 : Value).ownBlock)) (qR (Kd.R_mono HO197.out (fun _ hk => ⟨⟨hk.2.2.2.1, ⟨hk.2.2.2.2, ⟨hk.1, hk.2.1⟩⟩⟩, hk.2.2.1⟩))) hg hat)
     have n8_ := Aside0.mk (hb)
     have n9_ := Aside0.mk (ho)
     clear HO_186002 HO_186003 BK182 BK183 BK185 HO191 HO194 HO197 HB HO_186001
     have HO_186002 := n0_
     have HO_186003 := n1_
     have BK182 := n2_
     have BK183 := n3_
     have BK185 := n4_
     have HO191 := n5_
     have HO194 := n6_
     have HO197 := n7_
     have HB := n8_
     have HO200 := n9_
     clear n0_ n1_ n2_ n3_ n4_ n5_ n6_ n7_ n8_ n9_ ho hb hg hat
     obtain ⟨Ao40, co40, eo40⟩ := Kd.R_slice HO194.out
     (first | subst eo40 | (injection eo40 with f1_ f2_ f3_; have f4_ := f1_.symm; have f5_ := f3_.symm; clear f1_ f2_ f3_; subst f4_; subst f5_))
     obtain ⟨Ao42, co42, eo42⟩ := Kd.R_slice HO200.out
     (first | subst eo42 | (injection eo42 with f1_ f2_ f3_; have f4_ := f1_.symm; have f5_ := f3_.symm; clear f1_ f2_ f3_; subst f4_; subst f5_))
     refine hK.out _ _ ⟨(blk_cell BK185.out 0).trans rfl, (blk_cell BK185.out 1).trans rfl, (blk_cell BK185.out 2).trans rfl, (blk_cell BK185.out 3).trans rfl, (blk_cell BK185.out 4).trans rfl⟩ (fun hHeld => ?_); clear hK K
     refine norm_ (a' := ?_) ?_ ?_; rotate_left
     ·show Act.put _ (some 73) _ = _
      simp only [Act.put, List.setIfInBounds_toArray, List.set_cons_zero, List.set_cons_succ, i64_w, i32_w]
      rfl
     refine last_ (i := 11) (N := none) #[true, true, true, true, true, true, true, true, true, true, true, true, false, false] rfl rfl (one_of HT_.out (by kernel_rfl)) (by decide) (fun K hK => ?_)
     have hs41 : w38.cell? ⟨gb185, 0, none⟩ = some (.slice Ao28 x186000_1.length co28) := (blk_cell BK185.out 0).trans rfl
     have hfs41 := blk_frozen BK185.out 0
     have hns41_0 := NB182_185.out
     have hns41_1 := NB183_185.out
     have hms41_0 := NB185_182.out
     have hms41_1 := NB185_183.out
     refine skip_ (w1 := ?_) (by rfl) rfl ?_ ?_; rotate_left
     ·go_simp
      rfl
     refine hK.out _ _ ?_; clear hK K
     refine pS (i := 12) (N := some 75) #[true, true, true, true, true, true, true, true, true, true, true, true, true, false] rfl rfl HT_.out ?_
     refine last_ (i := 13) (N := none) #[true, true, true, true, true, true, true, true, true, true, true, true, true, true] rfl rfl (one_of HT_.out (by kernel_rfl)) (by decide) (fun K hK => ?_)
     have hs43 : w38.cell? ⟨gb185, 1, none⟩ = some (.slice Ao29 x186001_1.length co29) := (blk_cell BK185.out 1).trans rfl
     have hfs43 := blk_frozen BK185.out 1
     have hns43_0 := NB182_185.out
     have hns43_1 := NB183_185.out
     have hms43_0 := NB185_182.out
     have hms43_1 := NB185_183.out
     refine skip_ (w1 := ?_) (by rfl) rfl ?_ ?_; rotate_left
     ·go_simp
      rfl
     refine hK.out _ _ ?_; clear hK K
     refine done_ (done_of HT_.out (by kernel_rfl)) ?_
     try go_wp2
     go_meet
     case rel => exact ⟨_, (y192), (y198), (.slice Ao40 y192.length co40), (.slice Ao42 y198.length co42), H', ⟨by have := HK1.out; first | omega | exact Nat.le_refl _⟩, ⟨by exact qR (Kd.R_mono (Kd.R_far (p := ⟨gb185, 1, none⟩) (Kd.R_far (p := ⟨gb185, 0, none⟩) (Kd.R_types HO194.out BK185.out (by decide)) (fun _ hk => hk.2) (.slice Ao40 y192.length co40)) (fun _ hk => hk.2) (.slice Ao42 y198.length co42)) (fun _ hk => ⟨hk.1.2, ⟨hk.1.1.1, hk.1.1.2.1⟩⟩))⟩, ⟨by exact qR (Kd.R_mono (Kd.R_far (p := ⟨gb185, 1, none⟩) (Kd.R_far (p := ⟨gb185, 0, none⟩) (Kd.R_types HO200.out BK185.out (by decide)) (fun _ hk => hk.2) (.slice Ao40 y192.length co40)) (fun _ hk => hk.2) (.slice Ao42 y198.length co42)) (fun _ hk => ⟨hk.1.2.2.2.1, ⟨hk.1.1, hk.1.2.1⟩⟩))⟩, ⟨by exact qR (Kd.R_mono (Kd.R_far (p := ⟨gb185, 1, none⟩) (Kd.R_far (p := ⟨gb185, 0, none⟩) (Kd.R_types HO_186002.out BK185.out (by decide)) (fun _ hk => hk.2) (.slice Ao40 y192.length co40)) (fun _ hk => hk.2) (.slice Ao42 y198.length co42)) (fun _ hk => ⟨hk.1.1.2.2.1, ⟨hk.1.2, hk.1.1.1⟩⟩))⟩, ⟨by exact qR (Kd.R_mono (Kd.R_far (p := ⟨gb185, 1, none⟩) (Kd.R_far (p := ⟨gb185, 0, none⟩) (Kd.R_types HO_186003.out BK185.out (by decide)) (fun _ hk => hk.2) (.slice Ao40 y192.length co40)) (fun _ hk => hk.2) (.slice Ao42 y198.length co42)) (fun _ hk => ⟨hk.1.1.2.2.1, ⟨hk.1.2, hk.1.1.1⟩⟩))⟩, ⟨by (with_reducible repeat (first | refine blk_drewN ?_ _ | refine blk_drew ?_ | refine blk_alloc ?_ _)); refine blk_far ?_ NB182_185.out _; (with_reducible repeat (first | refine blk_drewN ?_ _ | refine blk_drew ?_ | refine blk_alloc ?_ _)); refine blk_far ?_ NB182_185.out _; exact qB BK182.out⟩, ⟨by (with_reducible repeat (first | refine blk_drewN ?_ _ | refine blk_drew ?_ | refine blk_alloc ?_ _)); refine blk_far ?_ NB183_185.out _; (with_reducible repeat (first | refine blk_drewN ?_ _ | refine blk_drew ?_ | refine blk_alloc ?_ _)); refine blk_far ?_ NB183_185.out _; exact qB BK183.out⟩, ⟨by (with_reducible repeat (first | refine blk_drewN ?_ _ | refine blk_drew ?_ | refine blk_alloc ?_ _)); refine blk_put (cs := #[.slice Ao40 y192.length co40, .slice Ao29 x186001_1.length co29, u186002, u186003, .int .i64 x186004_1]) ?_ 1 _ rfl; (with_reducible repeat (first | refine blk_drewN ?_ _ | refine blk_drew ?_ | refine blk_alloc ?_ _)); refine blk_put (cs := #[.slice Ao28 x186000_1.length co28, .slice Ao29 x186001_1.length co29, u186002, u186003, .int .i64 x186004_1]) ?_ 0 _ rfl; exact qB BK185.out⟩, ⟨by repeat (first | (with_reducible first | exact HB.out | apply below_alloc | apply pw_below_drewN | apply below_drew1 | refine below_set ?_ GE182.out | refine below_set ?_ GE183.out | refine below_set ?_ GE185.out) | exact HB.out)⟩⟩
    case rest =>
     clear HC18
     try clear c2
     try clear p2
     try clear p6
     try clear c26
     try clear c27
     obtain ⟨kq, x186000_17, x186001_17, u186000, u186001, HA, HJ17, HO_186000, HO_186001, HO_186002, HO_186003, BK182, BK183, BK185, HB⟩ := hcut
     cases kq with
     | zero => exact absurd HA.out (by simp [standbyref56_Plan.j1])
     | succ kj17 =>
      have H := HA.out
      clear HA
      simp only [standbyref56_Plan.j1] at H
      have HC44 := Aside0.mk H
      clear H
      go_upto_region 18 with (fail)
      go_cut [] (fun wc => ∃ (kq : Nat) (x186002_43 : List Int) (x186003_43 : List Int) (u186002 : Value) (u186003 : Value), Aside0 (standbyref56_Plan.j2 kq (wrap64 (Int.tdiv (wrap64 ((wrap64 ((l0_0.length : Int) + a0_2)) - 1)) a0_2)) t187 x8_1 x9_1 (wrap64 ((wrap64 (x9_1 + 1)) * a0_2)) (wrap64 ((wrap64 (t187 + a0_3)) + a0_4)) l0_0 l0_1 a0_2 a0_3 a0_4 x186000_17 x186001_17 x186002_43 x186003_43 x186004_1 = some (r1, r2, r3, r4, r5, r6)) ∧ Aside0 (kq ≤ kj17) ∧ Aside0 (Kd.R (Kd.int .i64) 3 wc w.heap.size (fun k_ => some k_ ≠ (u186001 : Value).ownBlock ∧ some k_ ≠ (u186002 : Value).ownBlock ∧ some k_ ≠ (u186003 : Value).ownBlock) u186000 x186000_17) ∧ Aside0 (Kd.R (Kd.int .i64) 3 wc w.heap.size (fun k_ => some k_ ≠ (u186000 : Value).ownBlock ∧ some k_ ≠ (u186002 : Value).ownBlock ∧ some k_ ≠ (u186003 : Value).ownBlock) u186001 x186001_17) ∧ Aside0 (Kd.R (Kd.int .i64) 3 wc w.heap.size (fun k_ => some k_ ≠ (u186000 : Value).ownBlock ∧ some k_ ≠ (u186001 : Value).ownBlock ∧ some k_ ≠ (u186003 : Value).ownBlock) u186002 x186002_43) ∧ Aside0 (Kd.R (Kd.int .i64) 3 wc w.heap.size (fun k_ => some k_ ≠ (u186000 : Value).ownBlock ∧ some k_ ≠ (u186001 : Value).ownBlock ∧ some k_ ≠ (u186002 : Value).ownBlock) u186003 x186003_43) ∧ Aside0 (wc.heap[gb182]? = some (.cells #[(.slice A0_0 l0_0.length c0_0), (.slice A0_1 l0_1.length c0_1), .int .i64 a0_2, .int .i64 a0_3, .int .i64 a0_4] 24 (0, 0))) ∧ Aside0 (wc.heap[gb183]? = some (.cells #[(.slice none 0 0), (.slice none 0 0), (.slice none 0 0), (.slice none 0 0), .int .i64 x184004_1] 28 (0, 0))) ∧ Aside0 (wc.heap[gb185]? = some (.cells #[u186000, u186001, u186002, u186003, .int .i64 x186004_1] 28 (0, 0))) ∧ Aside0 (Below w.heap.size w wc))
      case first =>
       have H := HC44.out
       clear HC44
       obtain ⟨y201, hy201⟩ : ∃ y_ : List Int, y_ = (([t187] : List Int)) := ⟨_, rfl⟩
       replace H : (if x186002_1.length + y201.length < 17592186044416 then ((some (([(wrap64 ((wrap64 (t187 + a0_3)) + a0_4))] : List Int) : List Int)).bind fun y207 => (if x186003_1.length + y207.length < 17592186044416 then (standbyref56_Plan.j2 kj17 (wrap64 (Int.tdiv (wrap64 ((wrap64 ((l0_0.length : Int) + a0_2)) - 1)) a0_2)) t187 x8_1 x9_1 (wrap64 ((wrap64 (x9_1 + 1)) * a0_2)) (wrap64 ((wrap64 (t187 + a0_3)) + a0_4)) l0_0 l0_1 a0_2 a0_3 a0_4 x186000_17 x186001_17 (x186002_1 ++ y201) (x186003_1 ++ y207) x186004_1) else (none))) else (none)) = some (r1, r2, r3, r4, r5, r6) := by first | (rw [hy201]; with_reducible exact H) | (have H2_ := (Option.bind_some _ _).symm.trans H; rw [hy201]; with_reducible exact H2_) | (have H2_ := (Option.bind_some _ _).symm.trans H; with_reducible exact H2_) | with_reducible exact H | (rw [hy201]; exact H) | exact H
       have Ny201 := Aside0.mk hy201
       clear hy201
       by_cases c45 : x186002_1.length + y201.length < 17592186044416
       case neg =>
        rw [if_neg c45] at H
        exact absurd H (by simp)
       rw [if_pos c45] at H
       have LMc45 := Aside0.mk c45
       clear c45
       obtain ⟨y204, hy204⟩ : ∃ y_ : List Int, y_ = (x186002_1 ++ y201) := ⟨_, rfl⟩
       replace H : ((some (([(wrap64 ((wrap64 (t187 + a0_3)) + a0_4))] : List Int) : List Int)).bind fun y207 => (if x186003_1.length + y207.length < 17592186044416 then (standbyref56_Plan.j2 kj17 (wrap64 (Int.tdiv (wrap64 ((wrap64 ((l0_0.length : Int) + a0_2)) - 1)) a0_2)) t187 x8_1 x9_1 (wrap64 ((wrap64 (x9_1 + 1)) * a0_2)) (wrap64 ((wrap64 (t187 + a0_3)) + a0_4)) l0_0 l0_1 a0_2 a0_3 a0_4 x186000_17 x186001_17 y204 (x186003_1 ++ y207) x186004_1) else (none))) = some (r1, r2, r3, r4, r5, r6) := by first | (rw [hy204]; with_reducible exact H) | (have H2_ := (Option.bind_some _ _).symm.trans H; rw [hy204]; with_reducible exact H2_) | (have H2_ := (Option.bind_some _ _).symm.trans H; with_reducible exact H2_) | with_reducible exact H | (rw [hy204]; exact H) | exact H
       have Ny204 := Aside0.mk hy204
       clear hy204
       obtain ⟨y207, hy207⟩ : ∃ y_ : List Int, y_ = (([(wrap64 ((wrap64 (t187 + a0_3)) + a0_4))] : List Int)) := ⟨_, rfl⟩
       replace H : (if x186003_1.length + y207.length < 17592186044416 then (standbyref56_Plan.j2 kj17 (wrap64 (Int.tdiv (wrap64 ((wrap64 ((l0_0.length : Int) + a0_2)) - 1)) a0_2)) t187 x8_1 x9_1 (wrap64 ((wrap64 (x9_1 + 1)) * a0_2)) (wrap64 ((wrap64 (t187 + a0_3)) + a0_4)) l0_0 l0_1 a0_2 a0_3 a0_4 x186000_17 x186001_17 y204 (x186003_1 ++ y207) x186004_1) else (none)) = some (r1, r2, r3, r4, r5, r6) := by first | (rw [hy207]; with_reducible exact H) | (have H2_ := (Option.bind_some _ _).symm.trans H; rw [hy207]; with_reducible exact H2_) | (have H2_ := (Option.bind_some _ _).symm.trans H; with_reducible exact H2_) | with_reducible exact H | (rw [hy207]; exact H) | exact H
       have Ny207 := Aside0.mk hy207
       clear hy207
       by_cases c46 : x186003_1.length + y207.length < 17592186044416
       case neg =>
        rw [if_neg c46] at H
        exact absurd H (by simp)
       rw [if_pos c46] at H
       have LMc46 := Aside0.mk c46
       clear c46
       obtain ⟨y210, hy210⟩ : ∃ y_ : List Int, y_ = (x186003_1 ++ y207) := ⟨_, rfl⟩
       replace H : (standbyref56_Plan.j2 kj17 (wrap64 (Int.tdiv (wrap64 ((wrap64 ((l0_0.length : Int) + a0_2)) - 1)) a0_2)) t187 x8_1 x9_1 (wrap64 ((wrap64 (x9_1 + 1)) * a0_2)) (wrap64 ((wrap64 (t187 + a0_3)) + a0_4)) l0_0 l0_1 a0_2 a0_3 a0_4 x186000_17 x186001_17 y204 y210 x186004_1) = some (r1, r2, r3, r4, r5, r6) := by first | (rw [hy210]; with_reducible exact H) | (have H2_ := (Option.bind_some _ _).symm.trans H; rw [hy210]; with_reducible exact H2_) | (have H2_ := (Option.bind_some _ _).symm.trans H; with_reducible exact H2_) | with_reducible exact H | (rw [hy210]; exact H) | exact H
       have Ny210 := Aside0.mk hy210
       clear hy210
       have H' := Aside0.mk H
       clear H
       obtain ⟨Ao47, co47, eo47⟩ := Kd.R_slice HO_186002.out
       subst eo47
       obtain ⟨Ao48, co48, eo48⟩ := Kd.R_slice HO_186003.out
       subst eo48
       try go_wp2
       have n0_ := Aside0.mk (Kd.R_drew HO_186000.out)
       have n1_ := Aside0.mk (Kd.R_drew HO_186001.out)
       have n2_ := Aside0.mk (Kd.R_drew HO_186002.out)
       have n3_ := Aside0.mk (Kd.R_drew HO_186003.out)
       have n4_ := Aside0.mk (blk_drew BK182.out)
       have n5_ := Aside0.mk (blk_drew BK183.out)
       have n6_ := Aside0.mk (blk_drew BK185.out)
       have n7_ := Aside0.mk (below_drew1 HB.out)
       clear HO_186000 HO_186001 HO_186002 HO_186003 BK182 BK183 BK185 HB
       have HO_186000 := n0_
       have HO_186001 := n1_
       have HO_186002 := n2_
       have HO_186003 := n3_
       have BK182 := n4_
       have BK183 := n5_
       have BK185 := n6_
       have HB := n7_
       clear n0_ n1_ n2_ n3_ n4_ n5_ n6_ n7_
       refine start_ (n := 14) (S := fun w' => w'.cell? ⟨gb185, 0, none⟩ = some (u186000) ∧ w'.cell? ⟨gb185, 1, none⟩ = some (u186001) ∧ w'.cell? ⟨gb185, 2, none⟩ = some (.slice Ao47 x186002_1.length co47) ∧ w'.cell? ⟨gb185, 3, none⟩ = some (.slice Ao48 x186003_1.length co48) ∧ w'.cell? ⟨gb185, 4, none⟩ = some (.int .i64 x186004_1)) (ds := [11, 13]) #[false, false, false, false, false, false, false, false, false, false, false, false, false, false] (by kernel_rfl) rfl rfl ⟨(blk_cell BK185.out 0).trans rfl, (blk_cell BK185.out 1).trans rfl, (blk_cell BK185.out 2).trans rfl, (blk_cell BK185.out 3).trans rfl, (blk_cell BK185.out 4).trans rfl⟩ (fun hHeld => ?_); refine with_tabW standbyref56_Plan.tab18 standbyref56_Plan.bits18 (fun HT_ HW_ => ?_)
       generalize wc.drew = w49 at HO_186000 HO_186001 HO_186002 HO_186003 BK182 BK183 BK185 HB hHeld ⊢
       refine pS (i := 0) (N := some 76) #[true, false, false, false, false, false, false, false, false, false, false, false, false, false] rfl rfl HT_.out ?_
       refine pS (i := 2) (N := some 78) #[true, false, true, false, false, false, false, false, false, false, false, false, false, false] rfl rfl HT_.out ?_
       refine pS (i := 5) (N := some 81) #[true, false, true, false, false, true, false, false, false, false, false, false, false, false] rfl rfl HT_.out ?_
       refine pS (i := 7) (N := some 83) #[true, false, true, false, false, true, false, true, false, false, false, false, false, false] rfl rfl HT_.out ?_
       refine take_ (i := 1) (N := some 77) (v := ?_) (a' := ?_) #[true, true, true, false, false, true, false, true, false, false, false, false, false, false] rfl rfl (take_ofW HT_.out HW_.out (by kernel_rfl)) (fun _ _ _ h => h) (Or.inl ⟨by rfl, ?_⟩) hHeld ?_ ?_; rotate_left
       ·rintro w' ⟨s0, s1, s2, s3, s4⟩
        go_simp
        with_reducible rfl
       rotate_left
       ·simp only [Act.put, List.setIfInBounds_toArray, List.set_cons_zero, List.set_cons_succ, i64_w, i32_w]
        rfl
       refine take_ (i := 6) (N := some 82) (v := ?_) (a' := ?_) #[true, true, true, false, false, true, true, true, false, false, false, false, false, false] rfl rfl (take_ofW HT_.out HW_.out (by kernel_rfl)) (fun _ _ _ h => h) (Or.inl ⟨by rfl, ?_⟩) hHeld ?_ ?_; rotate_left
       ·rintro w' ⟨s0, s1, s2, s3, s4⟩
        go_simp
        with_reducible rfl
       rotate_left
       ·simp only [Act.put, List.setIfInBounds_toArray, List.set_cons_zero, List.set_cons_succ, i64_w, i32_w]
        rfl
       refine join_ (σ := Value × Value × Value) 4 #[true, true, true, true, true, true, true, true, true, false, true, false, false, false] (fun s_ => [(79, s_.1), (80, s_.2.1), (84, s_.2.2), (86, .pointer (some ⟨gb185, 2, none⟩))]) (fun s_ w' => (w'.cell? ⟨gb185, 0, none⟩ = some (u186000) ∧ w'.cell? ⟨gb185, 1, none⟩ = some (u186001) ∧ w'.cell? ⟨gb185, 2, none⟩ = some (.slice Ao47 x186002_1.length co47) ∧ w'.cell? ⟨gb185, 3, none⟩ = some (.slice Ao48 x186003_1.length co48) ∧ w'.cell? ⟨gb185, 4, none⟩ = some (.int .i64 x186004_1)) ∧ (Kd.R (Kd.int .i64) 3 w' w.heap.size (fun k_ => some k_ ≠ (s_.2.1 : Value).ownBlock ∧ some k_ ≠ (s_.2.2 : Value).ownBlock ∧ some k_ ≠ (u186000 : Value).ownBlock ∧ some k_ ≠ (u186001 : Value).ownBlock ∧ some k_ ≠ (.slice Ao48 x186003_1.length co48 : Value).ownBlock) s_.1 y201) ∧ (Kd.R (Kd.int .i64) 3 w' w.heap.size (fun k_ => some k_ ≠ (s_.1 : Value).ownBlock ∧ some k_ ≠ (s_.2.2 : Value).ownBlock ∧ some k_ ≠ (u186000 : Value).ownBlock ∧ some k_ ≠ (u186001 : Value).ownBlock ∧ some k_ ≠ (.slice Ao48 x186003_1.length co48 : Value).ownBlock) s_.2.1 y204) ∧ (Kd.R (Kd.int .i64) 3 w' w.heap.size (fun k_ => some k_ ≠ (s_.1 : Value).ownBlock ∧ some k_ ≠ (s_.2.1 : Value).ownBlock ∧ some k_ ≠ (u186000 : Value).ownBlock ∧ some k_ ≠ (u186001 : Value).ownBlock ∧ some k_ ≠ (.slice Ao48 x186003_1.length co48 : Value).ownBlock) s_.2.2 y207) ∧ (Kd.R (Kd.int .i64) 3 w' w.heap.size (fun k_ => some k_ ≠ (s_.1 : Value).ownBlock ∧ some k_ ≠ (s_.2.1 : Value).ownBlock ∧ some k_ ≠ (s_.2.2 : Value).ownBlock ∧ some k_ ≠ (u186001 : Value).ownBlock ∧ some k_ ≠ (.slice Ao48 x186003_1.length co48 : Value).ownBlock) u186000 x186000_17) ∧ (Kd.R (Kd.int .i64) 3 w' w.heap.size (fun k_ => some k_ ≠ (s_.1 : Value).ownBlock ∧ some k_ ≠ (s_.2.1 : Value).ownBlock ∧ some k_ ≠ (s_.2.2 : Value).ownBlock ∧ some k_ ≠ (u186000 : Value).ownBlock ∧ some k_ ≠ (.slice Ao48 x186003_1.length co48 : Value).ownBlock) u186001 x186001_17) ∧ (Kd.R (Kd.int .i64) 3 w' w.heap.size (fun k_ => some k_ ≠ (s_.1 : Value).ownBlock ∧ some k_ ≠ (s_.2.1 : Value).ownBlock ∧ some k_ ≠ (s_.2.2 : Value).ownBlock ∧ some k_ ≠ (u186000 : Value).ownBlock ∧ some k_ ≠ (u186001 : Value).ownBlock) (.slice Ao48 x186003_1.length co48) x186003_1) ∧ (w'.heap[gb182]? = some (.cells #[.slice A0_0 l0_0.length c0_0, .slice A0_1 l0_1.length c0_1, .int .i64 a0_2, .int .i64 a0_3, .int .i64 a0_4] 24 (0, 0))) ∧ (w'.heap[gb183]? = some (.cells #[.slice none 0 0, .slice none 0 0, .slice none 0 0, .slice none 0 0, .int .i64 x184004_1] 28 (0, 0))) ∧ (w'.heap[gb185]? = some (.cells #[u186000, u186001, .slice Ao47 x186002_1.length co47, .slice Ao48 x186003_1.length co48, .int .i64 x186004_1] 28 (0, 0))) ∧ (Below w.heap.size w w')) ?_ ?_; rotate_left
       ·intro hCont
        refine two_ (i := 3) (j := 8) (Ni := some 79) (Nj := some 84) #[true, true, true, true, false, true, true, true, false, false, false, false, false, false] #[true, true, true, false, false, true, true, true, true, false, false, false, false, false] rfl rfl rfl rfl (two_of HT_.out (by kernel_rfl)) (by decide) (by decide) (fun K hK => ?_) (fun K hK => ?_)
        ·skip
         refine Kd.R_lit_step (Kd.int .i64) _ 3 ?hg (N := 79) ?hd (xs := ([t187] : List Int)) (inner := [.int .i64 t187]) (ok := fun _ => True) (okp := fun _ => True) ?hr ?hp (fun _ hk => hk) trivial (Below.refl _ _) (Nat.le_refl _) (by simp) ?_; (case hd => rfl); (case hg => rfl); (case hr => first | (go_simp; done) | (go_simp; rfl)); (case hp => exact (Reps.one (show Kd.M (Kd.int .i64) _ _ _ t187 [.int .i64 t187] from rfl) (Reps.none _ _)))
         intro v202 w50 ho51 hb hg_ hnew_
         clear hg_ hnew_
         (first | rw [← Ny201.out] at ho51 | (simp only [Int.reduceToNat] at ho51; rw [← Ny201.out] at ho51))
         have n0_ := Aside0.mk (Kd.R_elder' (qR HO_186000.out) (Kd.R_base ho51) hb)
         have n1_ := Aside0.mk (Kd.R_elder' (qR HO_186001.out) (Kd.R_base ho51) hb)
         have n2_ := Aside0.mk (Kd.R_elder' (qR HO_186002.out) (Kd.R_base ho51) hb)
         have n3_ := Aside0.mk (Kd.R_elder' (qR HO_186003.out) (Kd.R_base ho51) hb)
         have n4_ := Aside0.mk (Kd.R_lower (Kd.R_new' (Kd.R_new' (Kd.R_new' (Kd.R_new' ho51 (Kd.R_lt (qR HO_186000.out))) (Kd.R_lt (qR HO_186001.out))) (Kd.R_lt (qR HO_186002.out))) (Kd.R_lt (qR HO_186003.out))) (below_size (qW HB.out)))
         have n5_ := Aside0.mk (blk_below (qB BK182.out) hb)
         have n6_ := Aside0.mk (blk_below (qB BK183.out) hb)
         have n7_ := Aside0.mk (blk_below (qB BK185.out) hb)
         have n8_ := Aside0.mk (below_step (qW HB.out) hb)
         clear HO_186000 HO_186001 HO_186002 HO_186003 BK182 BK183 BK185 HB
         have HO_186000 := n0_
         have HO_186001 := n1_
         have HO_186002 := n2_
         have HO_186003 := n3_
         have HO203 := n4_
         have BK182 := n5_
         have BK183 := n6_
         have BK185 := n7_
         have HB := n8_
         clear n0_ n1_ n2_ n3_ n4_ n5_ n6_ n7_ n8_ hb ho51
         obtain ⟨Ao53, co53, eo53⟩ := Kd.R_slice HO203.out
         (first | subst eo53 | (injection eo53 with f1_ f2_ f3_; have f4_ := f1_.symm; have f5_ := f3_.symm; clear f1_ f2_ f3_; subst f4_; subst f5_))
         refine hK.out _ _ ⟨(blk_cell BK185.out 0).trans rfl, (blk_cell BK185.out 1).trans rfl, (blk_cell BK185.out 2).trans rfl, (blk_cell BK185.out 3).trans rfl, (blk_cell BK185.out 4).trans rfl⟩ (fun hHeld => ?_); clear hK K
         refine norm_ (a' := ?_) ?_ ?_; rotate_left
         ·show Act.put _ (some 79) _ = _
          simp only [Act.put, List.setIfInBounds_toArray, List.set_cons_zero, List.set_cons_succ, i64_w, i32_w]
          rfl
         refine two_ (i := 4) (j := 8) (Ni := some 80) (Nj := some 84) #[true, true, true, true, true, true, true, true, false, false, false, false, false, false] #[true, true, true, true, false, true, true, true, true, false, false, false, false, false] rfl rfl rfl rfl (two_of HT_.out (by kernel_rfl)) (by decide) (by decide) (fun K hK => ?_) (fun K hK => ?_)
         ·skip
          refine Kd.R_append_rows_step (Kd.int .i64) (w0 := w) w.heap.size (by rfl) (.tmp 77) (.tmp 79) 22 3 (.int .i64 0) 8 rfl Try.underlying22 info3 rfl (by decide) (by omega) (.slice Ao47 x186002_1.length co47) x186002_1 y201 _ _ _ (fun k_ => some k_ ≠ (u186000 : Value).ownBlock ∧ some k_ ≠ (u186001 : Value).ownBlock ∧ some k_ ≠ (.slice Ao48 x186003_1.length co48 : Value).ownBlock ∧ some k_ ≠ (.slice Ao53 y201.length co53 : Value).ownBlock) (fun _ => False) rfl rfl ?aO ?aR (fun _ _ h => h) (fun _ h => h.elim) ?aF ?aB ?aS ?aL ?_
          (case aR => repeat (first | exact (Kd.R_reads' HO203.out).2.2 | (with_reducible refine Kd.C_alloc ?_ _) | (with_reducible refine Kd.C_drewN ?_ _) | (with_reducible refine Kd.C_drew ?_)))
          (case aB => exact (qW HB.out))
          (case aF => exact (fun k_ hk => ⟨Kd.fresh' (Kd.R_lt (qR HO_186000.out)) k_ hk, Kd.fresh' (Kd.R_lt (qR HO_186001.out)) k_ hk, Kd.fresh' (Kd.R_lt (qR HO_186003.out)) k_ hk, Kd.fresh' (Kd.R_lt (qR HO203.out)) k_ hk⟩))
          (case aO => exact (qR (Kd.R_mono HO_186002.out (fun _ hk => ⟨hk.1.1, ⟨hk.1.2.1, ⟨hk.1.2.2, hk.2⟩⟩⟩))))
          (case aS => exact (below_size (qW HB.out)))
          (case aL => have := LMc45.out; omega)
          intro v205 w52 ho hb hg hat
          rw [← Ny204.out] at ho
          have n0_ := Aside0.mk (Kd.R_after (ok := (fun k_ => some k_ ≠ (u186001 : Value).ownBlock ∧ some k_ ≠ (.slice Ao48 x186003_1.length co48 : Value).ownBlock ∧ some k_ ≠ (.slice Ao53 y201.length co53 : Value).ownBlock)) (qR (Kd.R_mono HO_186000.out (fun _ hk => ⟨⟨hk.1.1, ⟨hk.1.2.2, hk.2⟩⟩, hk.1.2.1⟩))) hg hat)
          have n1_ := Aside0.mk (Kd.R_after (ok := (fun k_ => some k_ ≠ (u186000 : Value).ownBlock ∧ some k_ ≠ (.slice Ao48 x186003_1.length co48 : Value).ownBlock ∧ some k_ ≠ (.slice Ao53 y201.length co53 : Value).ownBlock)) (qR (Kd.R_mono HO_186001.out (fun _ hk => ⟨⟨hk.1.1, ⟨hk.1.2.2, hk.2⟩⟩, hk.1.2.1⟩))) hg hat)
          have n2_ := Aside0.mk (Kd.R_after (ok := (fun k_ => some k_ ≠ (u186000 : Value).ownBlock ∧ some k_ ≠ (u186001 : Value).ownBlock ∧ some k_ ≠ (.slice Ao53 y201.length co53 : Value).ownBlock)) (qR (Kd.R_mono HO_186003.out (fun _ hk => ⟨⟨hk.1.1, ⟨hk.1.2.1, hk.2⟩⟩, hk.1.2.2⟩))) hg hat)
          have n3_ := Aside0.mk (blk_grown (qB BK182.out) hg (Kd.R_ne HO_186002.out BK182.out (by decide)))
          have n4_ := Aside0.mk (blk_grown (qB BK183.out) hg (Kd.R_ne HO_186002.out BK183.out (by decide)))
          have n5_ := Aside0.mk (blk_grown (qB BK185.out) hg (Kd.R_ne HO_186002.out BK185.out (by decide)))
          have n6_ := Aside0.mk (Kd.R_after (ok := (fun k_ => some k_ ≠ (u186000 : Value).ownBlock ∧ some k_ ≠ (u186001 : Value).ownBlock ∧ some k_ ≠ (.slice Ao48 x186003_1.length co48 : Value).ownBlock)) (qR (Kd.R_mono HO203.out (fun _ hk => ⟨⟨hk.1.1.1.2, ⟨hk.1.1.2, hk.2⟩⟩, hk.1.2⟩))) hg hat)
          have n7_ := Aside0.mk (hb)
          have n8_ := Aside0.mk (ho)
          clear HO_186000 HO_186001 HO_186003 BK182 BK183 BK185 HO203 HB HO_186002
          have HO_186000 := n0_
          have HO_186001 := n1_
          have HO_186003 := n2_
          have BK182 := n3_
          have BK183 := n4_
          have BK185 := n5_
          have HO203 := n6_
          have HB := n7_
          have HO206 := n8_
          clear n0_ n1_ n2_ n3_ n4_ n5_ n6_ n7_ n8_ ho hb hg hat
          refine hK.out _ _ ⟨(blk_cell BK185.out 0).trans rfl, (blk_cell BK185.out 1).trans rfl, (blk_cell BK185.out 2).trans rfl, (blk_cell BK185.out 3).trans rfl, (blk_cell BK185.out 4).trans rfl⟩ (fun hHeld => ?_); clear hK K
          refine norm_ (a' := ?_) ?_ ?_; rotate_left
          ·show Act.put _ (some 80) _ = _
           simp only [Act.put, List.setIfInBounds_toArray, List.set_cons_zero, List.set_cons_succ, i64_w, i32_w]
           rfl
          refine pS (i := 10) (N := some 86) #[true, true, true, true, true, true, true, true, false, false, true, false, false, false] rfl rfl HT_.out ?_
          refine one_ (i := 8) (N := some 84) #[true, true, true, true, true, true, true, true, true, false, true, false, false, false] rfl rfl (one_of HT_.out (by kernel_rfl)) (by decide) (fun K hK => ?_)
          refine Kd.R_lit_step (Kd.int .i64) _ 3 ?hg (N := 84) ?hd (xs := ([(wrap64 ((wrap64 (t187 + a0_3)) + a0_4))] : List Int)) (inner := [.int .i64 (wrap64 ((wrap64 (t187 + a0_3)) + a0_4))]) (ok := fun _ => True) (okp := fun _ => True) ?hr ?hp (fun _ hk => hk) trivial (Below.refl _ _) (Nat.le_refl _) (by simp) ?_; (case hd => rfl); (case hg => rfl); (case hr => first | (go_simp; done) | (go_simp; rfl)); (case hp => exact (Reps.one (show Kd.M (Kd.int .i64) _ _ _ (wrap64 ((wrap64 (t187 + a0_3)) + a0_4)) [.int .i64 (wrap64 ((wrap64 (t187 + a0_3)) + a0_4))] from rfl) (Reps.none _ _)))
          intro v208 w54 ho55 hb hg_ hnew_
          clear hg_ hnew_
          (first | rw [← Ny207.out] at ho55 | (simp only [Int.reduceToNat] at ho55; rw [← Ny207.out] at ho55))
          have n0_ := Aside0.mk (Kd.R_elder' (qR HO_186000.out) (Kd.R_base ho55) hb)
          have n1_ := Aside0.mk (Kd.R_elder' (qR HO_186001.out) (Kd.R_base ho55) hb)
          have n2_ := Aside0.mk (Kd.R_elder' (qR HO_186003.out) (Kd.R_base ho55) hb)
          have n3_ := Aside0.mk (Kd.R_elder' (qR HO203.out) (Kd.R_base ho55) hb)
          have n4_ := Aside0.mk (Kd.R_elder' (qR HO206.out) (Kd.R_base ho55) hb)
          have n5_ := Aside0.mk (Kd.R_lower (Kd.R_new' (Kd.R_new' (Kd.R_new' (Kd.R_new' (Kd.R_new' ho55 (Kd.R_lt (qR HO_186000.out))) (Kd.R_lt (qR HO_186001.out))) (Kd.R_lt (qR HO_186003.out))) (Kd.R_lt (qR HO203.out))) (Kd.R_lt (qR HO206.out))) (below_size (qW HB.out)))
          have n6_ := Aside0.mk (blk_below (qB BK182.out) hb)
          have n7_ := Aside0.mk (blk_below (qB BK183.out) hb)
          have n8_ := Aside0.mk (blk_below (qB BK185.out) hb)
          have n9_ := Aside0.mk (below_step (qW HB.out) hb)
          clear HO_186000 HO_186001 HO_186003 HO203 HO206 BK182 BK183 BK185 HB
          have HO_186000 := n0_
          have HO_186001 := n1_
          have HO_186003 := n2_
          have HO203 := n3_
          have HO206 := n4_
          have HO209 := n5_
          have BK182 := n6_
          have BK183 := n7_
          have BK185 := n8_
          have HB := n9_
          clear n0_ n1_ n2_ n3_ n4_ n5_ n6_ n7_ n8_ n9_ hb ho55
          refine hK.out _ _ ⟨(blk_cell BK185.out 0).trans rfl, (blk_cell BK185.out 1).trans rfl, (blk_cell BK185.out 2).trans rfl, (blk_cell BK185.out 3).trans rfl, (blk_cell BK185.out 4).trans rfl⟩ (fun hHeld => ?_); clear hK K
          refine norm_ (a' := ?_) ?_ ?_; rotate_left
          ·show Act.put _ (some 84) _ = _
           simp only [Act.put, List.setIfInBounds_toArray, List.set_cons_zero, List.set_cons_succ, i64_w, i32_w]
           rfl
          exact norm_ (by simp only [putAll, Act.put, List.setIfInBounds_toArray, List.set_cons_zero, List.set_cons_succ]) (hCont (.slice Ao53 y201.length co53, v205, v208) _ ⟨hHeld, (qR (Kd.R_mono HO203.out (fun _ hk => ⟨hk.1.2, ⟨hk.2, ⟨hk.1.1.1, ⟨hk.1.1.2.1, hk.1.1.2.2⟩⟩⟩⟩))), (qR (Kd.R_mono HO206.out (fun _ hk => ⟨hk.1.2.2.2, ⟨hk.2, ⟨hk.1.1, ⟨hk.1.2.1, hk.1.2.2.1⟩⟩⟩⟩))), (qR (Kd.R_mono HO209.out (fun _ hk => ⟨hk.1.2, ⟨hk.2, ⟨hk.1.1.1.1.2, ⟨hk.1.1.1.2, hk.1.1.2⟩⟩⟩⟩))), (qR (Kd.R_mono HO_186000.out (fun _ hk => ⟨hk.1.1.2.2, ⟨hk.1.2, ⟨hk.2, ⟨hk.1.1.1, hk.1.1.2.1⟩⟩⟩⟩))), (qR (Kd.R_mono HO_186001.out (fun _ hk => ⟨hk.1.1.2.2, ⟨hk.1.2, ⟨hk.2, ⟨hk.1.1.1, hk.1.1.2.1⟩⟩⟩⟩))), (qR (Kd.R_mono HO_186003.out (fun _ hk => ⟨hk.1.1.2.2, ⟨hk.1.2, ⟨hk.2, ⟨hk.1.1.1, hk.1.1.2.1⟩⟩⟩⟩))), (qB BK182.out), (qB BK183.out), (qB BK185.out), (qW HB.out)⟩)
         ·skip
          refine Kd.R_lit_step (Kd.int .i64) _ 3 ?hg (N := 84) ?hd (xs := ([(wrap64 ((wrap64 (t187 + a0_3)) + a0_4))] : List Int)) (inner := [.int .i64 (wrap64 ((wrap64 (t187 + a0_3)) + a0_4))]) (ok := fun _ => True) (okp := fun _ => True) ?hr ?hp (fun _ hk => hk) trivial (Below.refl _ _) (Nat.le_refl _) (by simp) ?_; (case hd => rfl); (case hg => rfl); (case hr => first | (go_simp; done) | (go_simp; rfl)); (case hp => exact (Reps.one (show Kd.M (Kd.int .i64) _ _ _ (wrap64 ((wrap64 (t187 + a0_3)) + a0_4)) [.int .i64 (wrap64 ((wrap64 (t187 + a0_3)) + a0_4))] from rfl) (Reps.none _ _)))
          intro v208 w52 ho53 hb hg_ hnew_
          clear hg_ hnew_
          (first | rw [← Ny207.out] at ho53 | (simp only [Int.reduceToNat] at ho53; rw [← Ny207.out] at ho53))
          have n0_ := Aside0.mk (Kd.R_elder' (qR HO_186000.out) (Kd.R_base ho53) hb)
          have n1_ := Aside0.mk (Kd.R_elder' (qR HO_186001.out) (Kd.R_base ho53) hb)
          have n2_ := Aside0.mk (Kd.R_elder' (qR HO_186002.out) (Kd.R_base ho53) hb)
          have n3_ := Aside0.mk (Kd.R_elder' (qR HO_186003.out) (Kd.R_base ho53) hb)
          have n4_ := Aside0.mk (Kd.R_elder' (qR HO203.out) (Kd.R_base ho53) hb)
          have n5_ := Aside0.mk (Kd.R_lower (Kd.R_new' (Kd.R_new' (Kd.R_new' (Kd.R_new' (Kd.R_new' ho53 (Kd.R_lt (qR HO_186000.out))) (Kd.R_lt (qR HO_186001.out))) (Kd.R_lt (qR HO_186002.out))) (Kd.R_lt (qR HO_186003.out))) (Kd.R_lt (qR HO203.out))) (below_size (qW HB.out)))
          have n6_ := Aside0.mk (blk_below (qB BK182.out) hb)
          have n7_ := Aside0.mk (blk_below (qB BK183.out) hb)
          have n8_ := Aside0.mk (blk_below (qB BK185.out) hb)
          have n9_ := Aside0.mk (below_step (qW HB.out) hb)
          clear HO_186000 HO_186001 HO_186002 HO_186003 HO203 BK182 BK183 BK185 HB
          have HO_186000 := n0_
          have HO_186001 := n1_
          have HO_186002 := n2_
          have HO_186003 := n3_
          have HO203 := n4_
          have HO209 := n5_
          have BK182 := n6_
          have BK183 := n7_
          have BK185 := n8_
          have HB := n9_
          clear n0_ n1_ n2_ n3_ n4_ n5_ n6_ n7_ n8_ n9_ hb ho53
          obtain ⟨Ao55, co55, eo55⟩ := Kd.R_slice HO203.out
          (first | subst eo55 | (injection eo55 with f1_ f2_ f3_; have f4_ := f1_.symm; have f5_ := f3_.symm; clear f1_ f2_ f3_; subst f4_; subst f5_))
          refine hK.out _ _ ⟨(blk_cell BK185.out 0).trans rfl, (blk_cell BK185.out 1).trans rfl, (blk_cell BK185.out 2).trans rfl, (blk_cell BK185.out 3).trans rfl, (blk_cell BK185.out 4).trans rfl⟩ (fun hHeld => ?_); clear hK K
          refine norm_ (a' := ?_) ?_ ?_; rotate_left
          ·show Act.put _ (some 84) _ = _
           simp only [Act.put, List.setIfInBounds_toArray, List.set_cons_zero, List.set_cons_succ, i64_w, i32_w]
           rfl
          refine one_ (i := 4) (N := some 80) #[true, true, true, true, true, true, true, true, true, false, false, false, false, false] rfl rfl (one_of HT_.out (by kernel_rfl)) (by decide) (fun K hK => ?_)
          refine Kd.R_append_rows_step (Kd.int .i64) (w0 := w) w.heap.size (by rfl) (.tmp 77) (.tmp 79) 22 3 (.int .i64 0) 8 rfl Try.underlying22 info3 rfl (by decide) (by omega) (.slice Ao47 x186002_1.length co47) x186002_1 y201 _ _ _ (fun k_ => some k_ ≠ (u186000 : Value).ownBlock ∧ some k_ ≠ (u186001 : Value).ownBlock ∧ some k_ ≠ (.slice Ao48 x186003_1.length co48 : Value).ownBlock ∧ some k_ ≠ (.slice Ao55 y201.length co55 : Value).ownBlock ∧ some k_ ≠ (v208 : Value).ownBlock) (fun _ => False) rfl rfl ?aO ?aR (fun _ _ h => h) (fun _ h => h.elim) ?aF ?aB ?aS ?aL ?_
          (case aR => repeat (first | exact (Kd.R_reads' HO203.out).2.2 | (with_reducible refine Kd.C_alloc ?_ _) | (with_reducible refine Kd.C_drewN ?_ _) | (with_reducible refine Kd.C_drew ?_)))
          (case aB => exact (qW HB.out))
          (case aF => exact (fun k_ hk => ⟨Kd.fresh' (Kd.R_lt (qR HO_186000.out)) k_ hk, Kd.fresh' (Kd.R_lt (qR HO_186001.out)) k_ hk, Kd.fresh' (Kd.R_lt (qR HO_186003.out)) k_ hk, Kd.fresh' (Kd.R_lt (qR HO203.out)) k_ hk, Kd.fresh' (Kd.R_lt (qR HO209.out)) k_ hk⟩))
          (case aO => exact (qR (Kd.R_mono HO_186002.out (fun _ hk => ⟨hk.1.1.1, ⟨hk.1.1.2.1, ⟨hk.1.1.2.2, ⟨hk.1.2, hk.2⟩⟩⟩⟩))))
          (case aS => exact (below_size (qW HB.out)))
          (case aL => have := LMc45.out; omega)
          intro v205 w54 ho hb hg hat
          rw [← Ny204.out] at ho
          have n0_ := Aside0.mk (Kd.R_after (ok := (fun k_ => some k_ ≠ (u186001 : Value).ownBlock ∧ some k_ ≠ (.slice Ao48 x186003_1.length co48 : Value).ownBlock ∧ some k_ ≠ (.slice Ao55 y201.length co55 : Value).ownBlock ∧ some k_ ≠ (v208 : Value).ownBlock)) (qR (Kd.R_mono HO_186000.out (fun _ hk => ⟨⟨hk.1.1.1, ⟨hk.1.1.2.2, ⟨hk.1.2, hk.2⟩⟩⟩, hk.1.1.2.1⟩))) hg hat)
          have n1_ := Aside0.mk (Kd.R_after (ok := (fun k_ => some k_ ≠ (u186000 : Value).ownBlock ∧ some k_ ≠ (.slice Ao48 x186003_1.length co48 : Value).ownBlock ∧ some k_ ≠ (.slice Ao55 y201.length co55 : Value).ownBlock ∧ some k_ ≠ (v208 : Value).ownBlock)) (qR (Kd.R_mono HO_186001.out (fun _ hk => ⟨⟨hk.1.1.1, ⟨hk.1.1.2.2, ⟨hk.1.2, hk.2⟩⟩⟩, hk.1.1.2.1⟩))) hg hat)
          have n2_ := Aside0.mk (Kd.R_after (ok := (fun k_ => some k_ ≠ (u186000 : Value).ownBlock ∧ some k_ ≠ (u186001 : Value).ownBlock ∧ some k_ ≠ (.slice Ao55 y201.length co55 : Value).ownBlock ∧ some k_ ≠ (v208 : Value).ownBlock)) (qR (Kd.R_mono HO_186003.out (fun _ hk => ⟨⟨hk.1.1.1, ⟨hk.1.1.2.1, ⟨hk.1.2, hk.2⟩⟩⟩, hk.1.1.2.2⟩))) hg hat)
          have n3_ := Aside0.mk (blk_grown (qB BK182.out) hg (Kd.R_ne HO_186002.out BK182.out (by decide)))
          have n4_ := Aside0.mk (blk_grown (qB BK183.out) hg (Kd.R_ne HO_186002.out BK183.out (by decide)))
          have n5_ := Aside0.mk (blk_grown (qB BK185.out) hg (Kd.R_ne HO_186002.out BK185.out (by decide)))
          have n6_ := Aside0.mk (Kd.R_after (ok := (fun k_ => some k_ ≠ (u186000 : Value).ownBlock ∧ some k_ ≠ (u186001 : Value).ownBlock ∧ some k_ ≠ (.slice Ao48 x186003_1.length co48 : Value).ownBlock ∧ some k_ ≠ (v208 : Value).ownBlock)) (qR (Kd.R_mono HO203.out (fun _ hk => ⟨⟨hk.1.1.1.1.2, ⟨hk.1.1.1.2, ⟨hk.1.2, hk.2⟩⟩⟩, hk.1.1.2⟩))) hg hat)
          have n7_ := Aside0.mk (Kd.R_after (ok := (fun k_ => some k_ ≠ (u186000 : Value).ownBlock ∧ some k_ ≠ (u186001 : Value).ownBlock ∧ some k_ ≠ (.slice Ao48 x186003_1.length co48 : Value).ownBlock ∧ some k_ ≠ (.slice Ao55 y201.length co55 : Value).ownBlock)) (qR (Kd.R_mono HO209.out (fun _ hk => ⟨⟨hk.1.1.1.1.2, ⟨hk.1.1.1.2, ⟨hk.1.2, hk.2⟩⟩⟩, hk.1.1.2⟩))) hg hat)
          have n8_ := Aside0.mk (hb)
          have n9_ := Aside0.mk (ho)
          clear HO_186000 HO_186001 HO_186003 BK182 BK183 BK185 HO203 HO209 HB HO_186002
          have HO_186000 := n0_
          have HO_186001 := n1_
          have HO_186003 := n2_
          have BK182 := n3_
          have BK183 := n4_
          have BK185 := n5_
          have HO203 := n6_
          have HO209 := n7_
          have HB := n8_
          have HO206 := n9_
          clear n0_ n1_ n2_ n3_ n4_ n5_ n6_ n7_ n8_ n9_ ho hb hg hat
          refine hK.out _ _ ⟨(blk_cell BK185.out 0).trans rfl, (blk_cell BK185.out 1).trans rfl, (blk_cell BK185.out 2).trans rfl, (blk_cell BK185.out 3).trans rfl, (blk_cell BK185.out 4).trans rfl⟩ (fun hHeld => ?_); clear hK K
          refine norm_ (a' := ?_) ?_ ?_; rotate_left
          ·show Act.put _ (some 80) _ = _
           simp only [Act.put, List.setIfInBounds_toArray, List.set_cons_zero, List.set_cons_succ, i64_w, i32_w]
           rfl
          refine pS (i := 10) (N := some 86) #[true, true, true, true, true, true, true, true, true, false, true, false, false, false] rfl rfl HT_.out ?_
          exact norm_ (by simp only [putAll, Act.put, List.setIfInBounds_toArray, List.set_cons_zero, List.set_cons_succ]) (hCont (.slice Ao55 y201.length co55, v205, v208) _ ⟨hHeld, (qR (Kd.R_mono HO203.out (fun _ hk => ⟨hk.2, ⟨hk.1.2.2.2, ⟨hk.1.1, ⟨hk.1.2.1, hk.1.2.2.1⟩⟩⟩⟩))), (qR (Kd.R_mono HO206.out (fun _ hk => ⟨hk.2.2.2.1, ⟨hk.2.2.2.2, ⟨hk.1, ⟨hk.2.1, hk.2.2.1⟩⟩⟩⟩))), (qR (Kd.R_mono HO209.out (fun _ hk => ⟨hk.1.2.2.2, ⟨hk.2, ⟨hk.1.1, ⟨hk.1.2.1, hk.1.2.2.1⟩⟩⟩⟩))), (qR (Kd.R_mono HO_186000.out (fun _ hk => ⟨hk.1.2.2.1, ⟨hk.2, ⟨hk.1.2.2.2, ⟨hk.1.1, hk.1.2.1⟩⟩⟩⟩))), (qR (Kd.R_mono HO_186001.out (fun _ hk => ⟨hk.1.2.2.1, ⟨hk.2, ⟨hk.1.2.2.2, ⟨hk.1.1, hk.1.2.1⟩⟩⟩⟩))), (qR (Kd.R_mono HO_186003.out (fun _ hk => ⟨hk.1.2.2.1, ⟨hk.2, ⟨hk.1.2.2.2, ⟨hk.1.1, hk.1.2.1⟩⟩⟩⟩))), (qB BK182.out), (qB BK183.out), (qB BK185.out), (qW HB.out)⟩)
        ·skip
         refine Kd.R_lit_step (Kd.int .i64) _ 3 ?hg (N := 84) ?hd (xs := ([(wrap64 ((wrap64 (t187 + a0_3)) + a0_4))] : List Int)) (inner := [.int .i64 (wrap64 ((wrap64 (t187 + a0_3)) + a0_4))]) (ok := fun _ => True) (okp := fun _ => True) ?hr ?hp (fun _ hk => hk) trivial (Below.refl _ _) (Nat.le_refl _) (by simp) ?_; (case hd => rfl); (case hg => rfl); (case hr => first | (go_simp; done) | (go_simp; rfl)); (case hp => exact (Reps.one (show Kd.M (Kd.int .i64) _ _ _ (wrap64 ((wrap64 (t187 + a0_3)) + a0_4)) [.int .i64 (wrap64 ((wrap64 (t187 + a0_3)) + a0_4))] from rfl) (Reps.none _ _)))
         intro v208 w50 ho51 hb hg_ hnew_
         clear hg_ hnew_
         (first | rw [← Ny207.out] at ho51 | (simp only [Int.reduceToNat] at ho51; rw [← Ny207.out] at ho51))
         have n0_ := Aside0.mk (Kd.R_elder' (qR HO_186000.out) (Kd.R_base ho51) hb)
         have n1_ := Aside0.mk (Kd.R_elder' (qR HO_186001.out) (Kd.R_base ho51) hb)
         have n2_ := Aside0.mk (Kd.R_elder' (qR HO_186002.out) (Kd.R_base ho51) hb)
         have n3_ := Aside0.mk (Kd.R_elder' (qR HO_186003.out) (Kd.R_base ho51) hb)
         have n4_ := Aside0.mk (Kd.R_lower (Kd.R_new' (Kd.R_new' (Kd.R_new' (Kd.R_new' ho51 (Kd.R_lt (qR HO_186000.out))) (Kd.R_lt (qR HO_186001.out))) (Kd.R_lt (qR HO_186002.out))) (Kd.R_lt (qR HO_186003.out))) (below_size (qW HB.out)))
         have n5_ := Aside0.mk (blk_below (qB BK182.out) hb)
         have n6_ := Aside0.mk (blk_below (qB BK183.out) hb)
         have n7_ := Aside0.mk (blk_below (qB BK185.out) hb)
         have n8_ := Aside0.mk (below_step (qW HB.out) hb)
         clear HO_186000 HO_186001 HO_186002 HO_186003 BK182 BK183 BK185 HB
         have HO_186000 := n0_
         have HO_186001 := n1_
         have HO_186002 := n2_
         have HO_186003 := n3_
         have HO209 := n4_
         have BK182 := n5_
         have BK183 := n6_
         have BK185 := n7_
         have HB := n8_
         clear n0_ n1_ n2_ n3_ n4_ n5_ n6_ n7_ n8_ hb ho51
         refine hK.out _ _ ⟨(blk_cell BK185.out 0).trans rfl, (blk_cell BK185.out 1).trans rfl, (blk_cell BK185.out 2).trans rfl, (blk_cell BK185.out 3).trans rfl, (blk_cell BK185.out 4).trans rfl⟩ (fun hHeld => ?_); clear hK K
         refine norm_ (a' := ?_) ?_ ?_; rotate_left
         ·show Act.put _ (some 84) _ = _
          simp only [Act.put, List.setIfInBounds_toArray, List.set_cons_zero, List.set_cons_succ, i64_w, i32_w]
          rfl
         refine one_ (i := 3) (N := some 79) #[true, true, true, true, false, true, true, true, true, false, false, false, false, false] rfl rfl (one_of HT_.out (by kernel_rfl)) (by decide) (fun K hK => ?_)
         refine Kd.R_lit_step (Kd.int .i64) _ 3 ?hg (N := 79) ?hd (xs := ([t187] : List Int)) (inner := [.int .i64 t187]) (ok := fun _ => True) (okp := fun _ => True) ?hr ?hp (fun _ hk => hk) trivial (Below.refl _ _) (Nat.le_refl _) (by simp) ?_; (case hd => rfl); (case hg => rfl); (case hr => first | (go_simp; done) | (go_simp; rfl)); (case hp => exact (Reps.one (show Kd.M (Kd.int .i64) _ _ _ t187 [.int .i64 t187] from rfl) (Reps.none _ _)))
         intro v202 w52 ho53 hb hg_ hnew_
         clear hg_ hnew_
         (first | rw [← Ny201.out] at ho53 | (simp only [Int.reduceToNat] at ho53; rw [← Ny201.out] at ho53))
         have n0_ := Aside0.mk (Kd.R_elder' (qR HO_186000.out) (Kd.R_base ho53) hb)
         have n1_ := Aside0.mk (Kd.R_elder' (qR HO_186001.out) (Kd.R_base ho53) hb)
         have n2_ := Aside0.mk (Kd.R_elder' (qR HO_186002.out) (Kd.R_base ho53) hb)
         have n3_ := Aside0.mk (Kd.R_elder' (qR HO_186003.out) (Kd.R_base ho53) hb)
         have n4_ := Aside0.mk (Kd.R_elder' (qR HO209.out) (Kd.R_base ho53) hb)
         have n5_ := Aside0.mk (Kd.R_lower (Kd.R_new' (Kd.R_new' (Kd.R_new' (Kd.R_new' (Kd.R_new' ho53 (Kd.R_lt (qR HO_186000.out))) (Kd.R_lt (qR HO_186001.out))) (Kd.R_lt (qR HO_186002.out))) (Kd.R_lt (qR HO_186003.out))) (Kd.R_lt (qR HO209.out))) (below_size (qW HB.out)))
         have n6_ := Aside0.mk (blk_below (qB BK182.out) hb)
         have n7_ := Aside0.mk (blk_below (qB BK183.out) hb)
         have n8_ := Aside0.mk (blk_below (qB BK185.out) hb)
         have n9_ := Aside0.mk (below_step (qW HB.out) hb)
         clear HO_186000 HO_186001 HO_186002 HO_186003 HO209 BK182 BK183 BK185 HB
         have HO_186000 := n0_
         have HO_186001 := n1_
         have HO_186002 := n2_
         have HO_186003 := n3_
         have HO209 := n4_
         have HO203 := n5_
         have BK182 := n6_
         have BK183 := n7_
         have BK185 := n8_
         have HB := n9_
         clear n0_ n1_ n2_ n3_ n4_ n5_ n6_ n7_ n8_ n9_ hb ho53
         obtain ⟨Ao55, co55, eo55⟩ := Kd.R_slice HO203.out
         (first | subst eo55 | (injection eo55 with f1_ f2_ f3_; have f4_ := f1_.symm; have f5_ := f3_.symm; clear f1_ f2_ f3_; subst f4_; subst f5_))
         refine hK.out _ _ ⟨(blk_cell BK185.out 0).trans rfl, (blk_cell BK185.out 1).trans rfl, (blk_cell BK185.out 2).trans rfl, (blk_cell BK185.out 3).trans rfl, (blk_cell BK185.out 4).trans rfl⟩ (fun hHeld => ?_); clear hK K
         refine norm_ (a' := ?_) ?_ ?_; rotate_left
         ·show Act.put _ (some 79) _ = _
          simp only [Act.put, List.setIfInBounds_toArray, List.set_cons_zero, List.set_cons_succ, i64_w, i32_w]
          rfl
         refine one_ (i := 4) (N := some 80) #[true, true, true, true, true, true, true, true, true, false, false, false, false, false] rfl rfl (one_of HT_.out (by kernel_rfl)) (by decide) (fun K hK => ?_)
         refine Kd.R_append_rows_step (Kd.int .i64) (w0 := w) w.heap.size (by rfl) (.tmp 77) (.tmp 79) 22 3 (.int .i64 0) 8 rfl Try.underlying22 info3 rfl (by decide) (by omega) (.slice Ao47 x186002_1.length co47) x186002_1 y201 _ _ _ (fun k_ => some k_ ≠ (u186000 : Value).ownBlock ∧ some k_ ≠ (u186001 : Value).ownBlock ∧ some k_ ≠ (.slice Ao48 x186003_1.length co48 : Value).ownBlock ∧ some k_ ≠ (v208 : Value).ownBlock ∧ some k_ ≠ (.slice Ao55 y201.length co55 : Value).ownBlock) (fun _ => False) rfl rfl ?aO ?aR (fun _ _ h => h) (fun _ h => h.elim) ?aF ?aB ?aS ?aL ?_
         (case aR => repeat (first | exact (Kd.R_reads' HO203.out).2.2 | (with_reducible refine Kd.C_alloc ?_ _) | (with_reducible refine Kd.C_drewN ?_ _) | (with_reducible refine Kd.C_drew ?_)))
         (case aB => exact (qW HB.out))
         (case aF => exact (fun k_ hk => ⟨Kd.fresh' (Kd.R_lt (qR HO_186000.out)) k_ hk, Kd.fresh' (Kd.R_lt (qR HO_186001.out)) k_ hk, Kd.fresh' (Kd.R_lt (qR HO_186003.out)) k_ hk, Kd.fresh' (Kd.R_lt (qR HO209.out)) k_ hk, Kd.fresh' (Kd.R_lt (qR HO203.out)) k_ hk⟩))
         (case aO => exact (qR (Kd.R_mono HO_186002.out (fun _ hk => ⟨hk.1.1.1, ⟨hk.1.1.2.1, ⟨hk.1.1.2.2, ⟨hk.1.2, hk.2⟩⟩⟩⟩))))
         (case aS => exact (below_size (qW HB.out)))
         (case aL => have := LMc45.out; omega)
         intro v205 w54 ho hb hg hat
         rw [← Ny204.out] at ho
         have n0_ := Aside0.mk (Kd.R_after (ok := (fun k_ => some k_ ≠ (u186001 : Value).ownBlock ∧ some k_ ≠ (.slice Ao48 x186003_1.length co48 : Value).ownBlock ∧ some k_ ≠ (v208 : Value).ownBlock ∧ some k_ ≠ (.slice Ao55 y201.length co55 : Value).ownBlock)) (qR (Kd.R_mono HO_186000.out (fun _ hk => ⟨⟨hk.1.1.1, ⟨hk.1.1.2.2, ⟨hk.1.2, hk.2⟩⟩⟩, hk.1.1.2.1⟩))) hg hat)
         have n1_ := Aside0.mk (Kd.R_after (ok := (fun k_ => some k_ ≠ (u186000 : Value).ownBlock ∧ some k_ ≠ (.slice Ao48 x186003_1.length co48 : Value).ownBlock ∧ some k_ ≠ (v208 : Value).ownBlock ∧ some k_ ≠ (.slice Ao55 y201.length co55 : Value).ownBlock)) (qR (Kd.R_mono HO_186001.out (fun _ hk => ⟨⟨hk.1.1.1, ⟨hk.1.1.2.2, ⟨hk.1.2, hk.2⟩⟩⟩, hk.1.1.2.1⟩))) hg hat)
         have n2_ := Aside0.mk (Kd.R_after (ok := (fun k_ => some k_ ≠ (u186000 : Value).ownBlock ∧ some k_ ≠ (u186001 : Value).ownBlock ∧ some k_ ≠ (v208 : Value).ownBlock ∧ some k_ ≠ (.slice Ao55 y201.length co55 : Value).ownBlock)) (qR (Kd.R_mono HO_186003.out (fun _ hk => ⟨⟨hk.1.1.1, ⟨hk.1.1.2.1, ⟨hk.1.2, hk.2⟩⟩⟩, hk.1.1.2.2⟩))) hg hat)
         have n3_ := Aside0.mk (blk_grown (qB BK182.out) hg (Kd.R_ne HO_186002.out BK182.out (by decide)))
         have n4_ := Aside0.mk (blk_grown (qB BK183.out) hg (Kd.R_ne HO_186002.out BK183.out (by decide)))
         have n5_ := Aside0.mk (blk_grown (qB BK185.out) hg (Kd.R_ne HO_186002.out BK185.out (by decide)))
         have n6_ := Aside0.mk (Kd.R_after (ok := (fun k_ => some k_ ≠ (u186000 : Value).ownBlock ∧ some k_ ≠ (u186001 : Value).ownBlock ∧ some k_ ≠ (.slice Ao48 x186003_1.length co48 : Value).ownBlock ∧ some k_ ≠ (.slice Ao55 y201.length co55 : Value).ownBlock)) (qR (Kd.R_mono HO209.out (fun _ hk => ⟨⟨hk.1.1.1.1.2, ⟨hk.1.1.1.2, ⟨hk.1.2, hk.2⟩⟩⟩, hk.1.1.2⟩))) hg hat)
         have n7_ := Aside0.mk (Kd.R_after (ok := (fun k_ => some k_ ≠ (u186000 : Value).ownBlock ∧ some k_ ≠ (u186001 : Value).ownBlock ∧ some k_ ≠ (.slice Ao48 x186003_1.length co48 : Value).ownBlock ∧ some k_ ≠ (v208 : Value).ownBlock)) (qR (Kd.R_mono HO203.out (fun _ hk => ⟨⟨hk.1.1.1.1.2, ⟨hk.1.1.1.2, ⟨hk.1.2, hk.2⟩⟩⟩, hk.1.1.2⟩))) hg hat)
         have n8_ := Aside0.mk (hb)
         have n9_ := Aside0.mk (ho)
         clear HO_186000 HO_186001 HO_186003 BK182 BK183 BK185 HO209 HO203 HB HO_186002
         have HO_186000 := n0_
         have HO_186001 := n1_
         have HO_186003 := n2_
         have BK182 := n3_
         have BK183 := n4_
         have BK185 := n5_
         have HO209 := n6_
         have HO203 := n7_
         have HB := n8_
         have HO206 := n9_
         clear n0_ n1_ n2_ n3_ n4_ n5_ n6_ n7_ n8_ n9_ ho hb hg hat
         refine hK.out _ _ ⟨(blk_cell BK185.out 0).trans rfl, (blk_cell BK185.out 1).trans rfl, (blk_cell BK185.out 2).trans rfl, (blk_cell BK185.out 3).trans rfl, (blk_cell BK185.out 4).trans rfl⟩ (fun hHeld => ?_); clear hK K
         refine norm_ (a' := ?_) ?_ ?_; rotate_left
         ·show Act.put _ (some 80) _ = _
          simp only [Act.put, List.setIfInBounds_toArray, List.set_cons_zero, List.set_cons_succ, i64_w, i32_w]
          rfl
         refine pS (i := 10) (N := some 86) #[true, true, true, true, true, true, true, true, true, false, true, false, false, false] rfl rfl HT_.out ?_
         exact norm_ (by simp only [putAll, Act.put, List.setIfInBounds_toArray, List.set_cons_zero, List.set_cons_succ]) (hCont (.slice Ao55 y201.length co55, v205, v208) _ ⟨hHeld, (qR (Kd.R_mono HO203.out (fun _ hk => ⟨hk.2, ⟨hk.1.2.2.2, ⟨hk.1.1, ⟨hk.1.2.1, hk.1.2.2.1⟩⟩⟩⟩))), (qR (Kd.R_mono HO206.out (fun _ hk => ⟨hk.2.2.2.2, ⟨hk.2.2.2.1, ⟨hk.1, ⟨hk.2.1, hk.2.2.1⟩⟩⟩⟩))), (qR (Kd.R_mono HO209.out (fun _ hk => ⟨hk.1.2.2.2, ⟨hk.2, ⟨hk.1.1, ⟨hk.1.2.1, hk.1.2.2.1⟩⟩⟩⟩))), (qR (Kd.R_mono HO_186000.out (fun _ hk => ⟨hk.1.2.2.2, ⟨hk.2, ⟨hk.1.2.2.1, ⟨hk.1.1, hk.1.2.1⟩⟩⟩⟩))), (qR (Kd.R_mono HO_186001.out (fun _ hk => ⟨hk.1.2.2.2, ⟨hk.2, ⟨hk.1.2.2.1, ⟨hk.1.1, hk.1.2.1⟩⟩⟩⟩))), (qR (Kd.R_mono HO_186003.out (fun _ hk => ⟨hk.1.2.2.2, ⟨hk.2, ⟨hk.1.2.2.1, ⟨hk.1.1, hk.1.2.1⟩⟩⟩⟩))), (qB BK182.out), (qB BK183.out), (qB BK185.out), (qW HB.out)⟩)
       rintro ⟨v202, v205, v208⟩ w56 ⟨hS_, h0_, h1_, h2_, h3_, h4_, h5_, h6_, h7_, h8_, h9_⟩
       have n0_ : Aside0 (Kd.R (Kd.int .i64) 3 w56 w.heap.size (fun k_ => some k_ ≠ (v205 : Value).ownBlock ∧ some k_ ≠ (v208 : Value).ownBlock ∧ some k_ ≠ (u186000 : Value).ownBlock ∧ some k_ ≠ (u186001 : Value).ownBlock ∧ some k_ ≠ (.slice Ao48 x186003_1.length co48 : Value).ownBlock) v202 y201) := ⟨h0_⟩
       have n1_ : Aside0 (Kd.R (Kd.int .i64) 3 w56 w.heap.size (fun k_ => some k_ ≠ (v202 : Value).ownBlock ∧ some k_ ≠ (v208 : Value).ownBlock ∧ some k_ ≠ (u186000 : Value).ownBlock ∧ some k_ ≠ (u186001 : Value).ownBlock ∧ some k_ ≠ (.slice Ao48 x186003_1.length co48 : Value).ownBlock) v205 y204) := ⟨h1_⟩
       have n2_ : Aside0 (Kd.R (Kd.int .i64) 3 w56 w.heap.size (fun k_ => some k_ ≠ (v202 : Value).ownBlock ∧ some k_ ≠ (v205 : Value).ownBlock ∧ some k_ ≠ (u186000 : Value).ownBlock ∧ some k_ ≠ (u186001 : Value).ownBlock ∧ some k_ ≠ (.slice Ao48 x186003_1.length co48 : Value).ownBlock) v208 y207) := ⟨h2_⟩
       have n3_ : Aside0 (Kd.R (Kd.int .i64) 3 w56 w.heap.size (fun k_ => some k_ ≠ (v202 : Value).ownBlock ∧ some k_ ≠ (v205 : Value).ownBlock ∧ some k_ ≠ (v208 : Value).ownBlock ∧ some k_ ≠ (u186001 : Value).ownBlock ∧ some k_ ≠ (.slice Ao48 x186003_1.length co48 : Value).ownBlock) u186000 x186000_17) := ⟨h3_⟩
       have n4_ : Aside0 (Kd.R (Kd.int .i64) 3 w56 w.heap.size (fun k_ => some k_ ≠ (v202 : Value).ownBlock ∧ some k_ ≠ (v205 : Value).ownBlock ∧ some k_ ≠ (v208 : Value).ownBlock ∧ some k_ ≠ (u186000 : Value).ownBlock ∧ some k_ ≠ (.slice Ao48 x186003_1.length co48 : Value).ownBlock) u186001 x186001_17) := ⟨h4_⟩
       have n5_ : Aside0 (Kd.R (Kd.int .i64) 3 w56 w.heap.size (fun k_ => some k_ ≠ (v202 : Value).ownBlock ∧ some k_ ≠ (v205 : Value).ownBlock ∧ some k_ ≠ (v208 : Value).ownBlock ∧ some k_ ≠ (u186000 : Value).ownBlock ∧ some k_ ≠ (u186001 : Value).ownBlock) (.slice Ao48 x186003_1.length co48) x186003_1) := ⟨h5_⟩
       have n6_ : Aside0 (w56.heap[gb182]? = some (.cells #[.slice A0_0 l0_0.length c0_0, .slice A0_1 l0_1.length c0_1, .int .i64 a0_2, .int .i64 a0_3, .int .i64 a0_4] 24 (0, 0))) := ⟨h6_⟩
       have n7_ : Aside0 (w56.heap[gb183]? = some (.cells #[.slice none 0 0, .slice none 0 0, .slice none 0 0, .slice none 0 0, .int .i64 x184004_1] 28 (0, 0))) := ⟨h7_⟩
       have n8_ : Aside0 (w56.heap[gb185]? = some (.cells #[u186000, u186001, .slice Ao47 x186002_1.length co47, .slice Ao48 x186003_1.length co48, .int .i64 x186004_1] 28 (0, 0))) := ⟨h8_⟩
       have n9_ : Aside0 (Below w.heap.size w w56) := ⟨h9_⟩
       clear HO_186000 HO_186001 HO_186002 HO_186003 BK182 BK183 BK185 HB h0_ h1_ h2_ h3_ h4_ h5_ h6_ h7_ h8_ h9_
       have HO203 := n0_
       have HO206 := n1_
       have HO209 := n2_
       have HO_186000 := n3_
       have HO_186001 := n4_
       have HO_186003 := n5_
       have BK182 := n6_
       have BK183 := n7_
       have BK185 := n8_
       have HB := n9_
       clear n0_ n1_ n2_ n3_ n4_ n5_ n6_ n7_ n8_ n9_
       have hHeld : w56.cell? ⟨gb185, 0, none⟩ = some (u186000) ∧ w56.cell? ⟨gb185, 1, none⟩ = some (u186001) ∧ w56.cell? ⟨gb185, 2, none⟩ = some (.slice Ao47 x186002_1.length co47) ∧ w56.cell? ⟨gb185, 3, none⟩ = some (.slice Ao48 x186003_1.length co48) ∧ w56.cell? ⟨gb185, 4, none⟩ = some (.int .i64 x186004_1) := hS_
       obtain ⟨Ao58, co58, eo58⟩ := Kd.R_slice HO209.out
       (first | subst eo58 | (injection eo58 with f1_ f2_ f3_; have f4_ := f1_.symm; have f5_ := f3_.symm; clear f1_ f2_ f3_; subst f4_; subst f5_))
       refine norm_ (a' := ?_) ?_ ?_; rotate_left
       ·simp only [putAll, Act.put, List.setIfInBounds_toArray, List.set_cons_zero, List.set_cons_succ]
        rfl
       refine one_ (i := 9) (N := some 85) #[true, true, true, true, true, true, true, true, true, true, true, false, false, false] rfl rfl (one_of HT_.out (by kernel_rfl)) (by decide) (fun K hK => ?_)
       refine Kd.R_append_rows_step (Kd.int .i64) (w0 := w) w.heap.size (by rfl) (.tmp 82) (.tmp 84) 22 3 (.int .i64 0) 8 rfl Try.underlying22 info3 rfl (by decide) (by omega) (.slice Ao48 x186003_1.length co48) x186003_1 y207 _ _ _ (fun k_ => some k_ ≠ (u186000 : Value).ownBlock ∧ some k_ ≠ (u186001 : Value).ownBlock ∧ some k_ ≠ (v202 : Value).ownBlock ∧ some k_ ≠ (v205 : Value).ownBlock ∧ some k_ ≠ (.slice Ao58 y207.length co58 : Value).ownBlock) (fun _ => False) rfl rfl ?aO ?aR (fun _ _ h => h) (fun _ h => h.elim) ?aF ?aB ?aS ?aL ?_
       (case aR => repeat (first | exact (Kd.R_reads' HO209.out).2.2 | (with_reducible refine Kd.C_alloc ?_ _) | (with_reducible refine Kd.C_drewN ?_ _) | (with_reducible refine Kd.C_drew ?_)))
       (case aB => exact (qW HB.out))
       (case aF => exact (fun k_ hk => ⟨Kd.fresh' (Kd.R_lt (qR HO_186000.out)) k_ hk, Kd.fresh' (Kd.R_lt (qR HO_186001.out)) k_ hk, Kd.fresh' (Kd.R_lt (qR HO203.out)) k_ hk, Kd.fresh' (Kd.R_lt (qR HO206.out)) k_ hk, Kd.fresh' (Kd.R_lt (qR HO209.out)) k_ hk⟩))
       (case aO => exact (qR (Kd.R_mono HO_186003.out (fun _ hk => ⟨hk.2.2.2.1, ⟨hk.2.2.2.2, ⟨hk.1, ⟨hk.2.1, hk.2.2.1⟩⟩⟩⟩))))
       (case aS => exact (below_size (qW HB.out)))
       (case aL => have := LMc46.out; omega)
       intro v211 w57 ho hb hg hat
       rw [← Ny210.out] at ho
       have n0_ := Aside0.mk (Kd.R_after (ok := (fun k_ => some k_ ≠ (u186001 : Value).ownBlock ∧ some k_ ≠ (v202 : Value).ownBlock ∧ some k_ ≠ (v205 : Value).ownBlock ∧ some k_ ≠ (.slice Ao58 y207.length co58 : Value).ownBlock)) (qR (Kd.R_mono HO_186000.out (fun _ hk => ⟨⟨hk.2.2.2.1, ⟨hk.1, ⟨hk.2.1, hk.2.2.1⟩⟩⟩, hk.2.2.2.2⟩))) hg hat)
       have n1_ := Aside0.mk (Kd.R_after (ok := (fun k_ => some k_ ≠ (u186000 : Value).ownBlock ∧ some k_ ≠ (v202 : Value).ownBlock ∧ some k_ ≠ (v205 : Value).ownBlock ∧ some k_ ≠ (.slice Ao58 y207.length co58 : Value).ownBlock)) (qR (Kd.R_mono HO_186001.out (fun _ hk => ⟨⟨hk.2.2.2.1, ⟨hk.1, ⟨hk.2.1, hk.2.2.1⟩⟩⟩, hk.2.2.2.2⟩))) hg hat)
       have n2_ := Aside0.mk (blk_grown (qB BK182.out) hg (Kd.R_ne HO_186003.out BK182.out (by decide)))
       have n3_ := Aside0.mk (blk_grown (qB BK183.out) hg (Kd.R_ne HO_186003.out BK183.out (by decide)))
       have n4_ := Aside0.mk (blk_grown (qB BK185.out) hg (Kd.R_ne HO_186003.out BK185.out (by decide)))
       have n5_ := Aside0.mk (Kd.R_after (ok := (fun k_ => some k_ ≠ (u186000 : Value).ownBlock ∧ some k_ ≠ (u186001 : Value).ownBlock ∧ some k_ ≠ (v205 : Value).ownBlock ∧ some k_ ≠ (.slice Ao58 y207.length co58 : Value).ownBlock)) (qR (Kd.R_mono HO203.out (fun _ hk => ⟨⟨hk.2.2.1, ⟨hk.2.2.2.1, ⟨hk.1, hk.2.1⟩⟩⟩, hk.2.2.2.2⟩))) hg hat)
       have n6_ := Aside0.mk (Kd.R_after (ok := (fun k_ => some k_ ≠ (u186000 : Value).ownBlock ∧ some k_ ≠ (u186001 : Value).ownBlock ∧ some k_ ≠ (v202 : Value).ownBlock ∧ some k_ ≠ (.slice Ao58 y207.length co58 : Value).ownBlock)) (qR (Kd.R_mono HO206.out (fun _ hk => ⟨⟨hk.2.2.1, ⟨hk.2.2.2.1, ⟨hk.1, hk.2.1⟩⟩⟩, hk.2.2.2.2⟩))) hg hat)
       have n7_ := Aside0.mk (Kd.R_after (ok := (fun k_ => some k_ ≠ (u186000 : Value).ownBlock ∧ some k_ ≠ (u186001 : Value).ownBlock ∧ some k_ ≠ (v202 : Value).ownBlock ∧ some k_ ≠ (v205 : Value).ownBlock)) (qR (Kd.R_mono HO209.out (fun _ hk => ⟨⟨hk.2.2.1, ⟨hk.2.2.2.1, ⟨hk.1, hk.2.1⟩⟩⟩, hk.2.2.2.2⟩))) hg hat)
       have n8_ := Aside0.mk (hb)
       have n9_ := Aside0.mk (ho)
       clear HO_186000 HO_186001 BK182 BK183 BK185 HO203 HO206 HO209 HB HO_186003
       have HO_186000 := n0_
       have HO_186001 := n1_
       have BK182 := n2_
       have BK183 := n3_
       have BK185 := n4_
       have HO203 := n5_
       have HO206 := n6_
       have HO209 := n7_
       have HB := n8_
       have HO212 := n9_
       clear n0_ n1_ n2_ n3_ n4_ n5_ n6_ n7_ n8_ n9_ ho hb hg hat
       obtain ⟨Ao59, co59, eo59⟩ := Kd.R_slice HO206.out
       (first | subst eo59 | (injection eo59 with f1_ f2_ f3_; have f4_ := f1_.symm; have f5_ := f3_.symm; clear f1_ f2_ f3_; subst f4_; subst f5_))
       obtain ⟨Ao61, co61, eo61⟩ := Kd.R_slice HO212.out
       (first | subst eo61 | (injection eo61 with f1_ f2_ f3_; have f4_ := f1_.symm; have f5_ := f3_.symm; clear f1_ f2_ f3_; subst f4_; subst f5_))
       refine hK.out _ _ ⟨(blk_cell BK185.out 0).trans rfl, (blk_cell BK185.out 1).trans rfl, (blk_cell BK185.out 2).trans rfl, (blk_cell BK185.out 3).trans rfl, (blk_cell BK185.out 4).trans rfl⟩ (fun hHeld => ?_); clear hK K
       refine norm_ (a' := ?_) ?_ ?_; rotate_left
       ·show Act.put _ (some 85) _ = _
        simp only [Act.put, List.setIfInBounds_toArray, List.set_cons_zero, List.set_cons_succ, i64_w, i32_w]
        rfl
       refine last_ (i := 11) (N := none) #[true, true, true, true, true, true, true, true, true, true, true, true, false, false] rfl rfl (one_of HT_.out (by kernel_rfl)) (by decide) (fun K hK => ?_)
       have hs60 : w57.cell? ⟨gb185, 2, none⟩ = some (.slice Ao47 x186002_1.length co47) := (blk_cell BK185.out 2).trans rfl
       have hfs60 := blk_frozen BK185.out 2
       have hns60_0 := NB182_185.out
       have hns60_1 := NB183_185.out
       have hms60_0 := NB185_182.out
       have hms60_1 := NB185_183.out
       refine skip_ (w1 := ?_) (by rfl) rfl ?_ ?_; rotate_left
       ·go_simp
        rfl
       refine hK.out _ _ ?_; clear hK K
       refine pS (i := 12) (N := some 87) #[true, true, true, true, true, true, true, true, true, true, true, true, true, false] rfl rfl HT_.out ?_
       refine last_ (i := 13) (N := none) #[true, true, true, true, true, true, true, true, true, true, true, true, true, true] rfl rfl (one_of HT_.out (by kernel_rfl)) (by decide) (fun K hK => ?_)
       have hs62 : w57.cell? ⟨gb185, 3, none⟩ = some (.slice Ao48 x186003_1.length co48) := (blk_cell BK185.out 3).trans rfl
       have hfs62 := blk_frozen BK185.out 3
       have hns62_0 := NB182_185.out
       have hns62_1 := NB183_185.out
       have hms62_0 := NB185_182.out
       have hms62_1 := NB185_183.out
       refine skip_ (w1 := ?_) (by rfl) rfl ?_ ?_; rotate_left
       ·go_simp
        rfl
       refine hK.out _ _ ?_; clear hK K
       refine done_ (done_of HT_.out (by kernel_rfl)) ?_
       try go_wp2
       go_meet
       case rel => exact ⟨_, (y204), (y210), (.slice Ao59 y204.length co59), (.slice Ao61 y210.length co61), H', ⟨by have := HK1.out; have := HJ17.out; first | omega | exact Nat.le_refl _⟩, ⟨by exact qR (Kd.R_mono (Kd.R_far (p := ⟨gb185, 3, none⟩) (Kd.R_far (p := ⟨gb185, 2, none⟩) (Kd.R_types HO_186000.out BK185.out (by decide)) (fun _ hk => hk.2) (.slice Ao59 y204.length co59)) (fun _ hk => hk.2) (.slice Ao61 y210.length co61)) (fun _ hk => ⟨hk.1.1.1, ⟨hk.1.1.2.2.1, hk.1.2⟩⟩))⟩, ⟨by exact qR (Kd.R_mono (Kd.R_far (p := ⟨gb185, 3, none⟩) (Kd.R_far (p := ⟨gb185, 2, none⟩) (Kd.R_types HO_186001.out BK185.out (by decide)) (fun _ hk => hk.2) (.slice Ao59 y204.length co59)) (fun _ hk => hk.2) (.slice Ao61 y210.length co61)) (fun _ hk => ⟨hk.1.1.1, ⟨hk.1.1.2.2.1, hk.1.2⟩⟩))⟩, ⟨by exact qR (Kd.R_mono (Kd.R_far (p := ⟨gb185, 3, none⟩) (Kd.R_far (p := ⟨gb185, 2, none⟩) (Kd.R_types HO206.out BK185.out (by decide)) (fun _ hk => hk.2) (.slice Ao59 y204.length co59)) (fun _ hk => hk.2) (.slice Ao61 y210.length co61)) (fun _ hk => ⟨hk.1.1.1, ⟨hk.1.1.2.1, hk.1.2⟩⟩))⟩, ⟨by exact qR (Kd.R_mono (Kd.R_far (p := ⟨gb185, 3, none⟩) (Kd.R_far (p := ⟨gb185, 2, none⟩) (Kd.R_types HO212.out BK185.out (by decide)) (fun _ hk => hk.2) (.slice Ao59 y204.length co59)) (fun _ hk => hk.2) (.slice Ao61 y210.length co61)) (fun _ hk => ⟨hk.1.1, ⟨hk.1.2.1, hk.1.2.2.2.1⟩⟩))⟩, ⟨by (with_reducible repeat (first | refine blk_drewN ?_ _ | refine blk_drew ?_ | refine blk_alloc ?_ _)); refine blk_far ?_ NB182_185.out _; (with_reducible repeat (first | refine blk_drewN ?_ _ | refine blk_drew ?_ | refine blk_alloc ?_ _)); refine blk_far ?_ NB182_185.out _; exact qB BK182.out⟩, ⟨by (with_reducible repeat (first | refine blk_drewN ?_ _ | refine blk_drew ?_ | refine blk_alloc ?_ _)); refine blk_far ?_ NB183_185.out _; (with_reducible repeat (first | refine blk_drewN ?_ _ | refine blk_drew ?_ | refine blk_alloc ?_ _)); refine blk_far ?_ NB183_185.out _; exact qB BK183.out⟩, ⟨by (with_reducible repeat (first | refine blk_drewN ?_ _ | refine blk_drew ?_ | refine blk_alloc ?_ _)); refine blk_put (cs := #[u186000, u186001, .slice Ao59 y204.length co59, .slice Ao48 x186003_1.length co48, .int .i64 x186004_1]) ?_ 3 _ rfl; (with_reducible repeat (first | refine blk_drewN ?_ _ | refine blk_drew ?_ | refine blk_alloc ?_ _)); refine blk_put (cs := #[u186000, u186001, .slice Ao47 x186002_1.length co47, .slice Ao48 x186003_1.length co48, .int .i64 x186004_1]) ?_ 2 _ rfl; exact qB BK185.out⟩, ⟨by repeat (first | (with_reducible first | exact HB.out | apply below_alloc | apply pw_below_drewN | apply below_drew1 | refine below_set ?_ GE182.out | refine below_set ?_ GE183.out | refine below_set ?_ GE185.out) | exact HB.out)⟩⟩
      case rest =>
       clear HC44
       try clear p2
       try clear c4
       try clear p6
       try clear c45
       try clear c46
       obtain ⟨kq, x186002_43, x186003_43, u186002, u186003, HA, HJ43, HO_186000, HO_186001, HO_186002, HO_186003, BK182, BK183, BK185, HB⟩ := hcut
       cases kq with
       | zero => exact absurd HA.out (by simp [standbyref56_Plan.j2])
       | succ kj43 =>
        have H := HA.out
        clear HA
        simp only [standbyref56_Plan.j2] at H
        by_cases c63 : x9_1 = 0
        ·rw [if_pos c63] at H
         have c63b0 : (x9_1 == 0) = true := beq_iff_eq.mpr c63
         have c63b1 : (x9_1 != 0) = false := bne_eq_false_iff_eq.mpr c63
         clear c63
         obtain ⟨ji64, hji64⟩ : ∃ j_ : Int, (mx x186004_1 (wrap64 ((wrap64 ((wrap64 ((wrap64 (t187 + a0_3)) + a0_4)) - 1)) - x8_1))) = j_ := ⟨_, rfl⟩
         replace H : (standbyref56_Plan.l0 kj43 (wrap64 (Int.tdiv (wrap64 ((wrap64 ((l0_0.length : Int) + a0_2)) - 1)) a0_2)) t187 (wrap64 ((wrap64 (x9_1 + 1)) * a0_2)) (wrap64 (x9_1 + 1)) l0_0 l0_1 a0_2 a0_3 a0_4 x186000_17 x186001_17 x186002_43 x186003_43 ji64) = some (r1, r2, r3, r4, r5, r6) := by first | (rw [hji64] at H; exact H) | (simp only [hji64] at H ⊢; exact H)
         have hji64_ : (if x186004_1 < (wrap64 ((wrap64 ((wrap64 ((wrap64 (t187 + a0_3)) + a0_4)) - 1)) - x8_1)) then (wrap64 ((wrap64 ((wrap64 ((wrap64 (t187 + a0_3)) + a0_4)) - 1)) - x8_1)) else x186004_1) = ji64 := hji64
         have H' := Aside0.mk H
         clear H
         have hnb65 := NB185_182.out
         have hnc65 := NB182_185.out
         have hnb66 := NB185_183.out
         have hnc66 := NB183_185.out
         have hcz67_0 : wc.cell? ⟨gb185, 0, none⟩ = some (u186000) := (blk_cell BK185.out 0).trans rfl
         have hcz67_1 : wc.cell? ⟨gb185, 1, none⟩ = some (u186001) := (blk_cell BK185.out 1).trans rfl
         have hcz67_2 : wc.cell? ⟨gb185, 2, none⟩ = some (u186002) := (blk_cell BK185.out 2).trans rfl
         have hcz67_3 : wc.cell? ⟨gb185, 3, none⟩ = some (u186003) := (blk_cell BK185.out 3).trans rfl
         have hcz67_4 : wc.cell? ⟨gb185, 4, none⟩ = some (.int .i64 x186004_1) := (blk_cell BK185.out 4).trans rfl
         have hfz67_0 := blk_frozen BK185.out 0
         have hfz67_1 := blk_frozen BK185.out 1
         have hfz67_2 := blk_frozen BK185.out 2
         have hfz67_3 := blk_frozen BK185.out 3
         have hfz67_4 := blk_frozen BK185.out 4
         go_wp2
         go_roundg kj43
         case measure => have := HK1.out; have := HJ17.out; have := HJ43.out; omega
         case rel => exact ⟨(t187), ((wrap64 ((wrap64 (x9_1 + 1)) * a0_2))), (wrap64 (x9_1 + 1)), (x184004_1), (x186000_17), (x186001_17), (x186002_43), (x186003_43), (ji64), (u186000), (u186001), (u186002), (u186003), (by first | rfl | (simp; done) | (simp [*]; done)), (by first | rfl | (simp; done) | (simp [*]; done)), (by first | rfl | (simp; done) | (simp [*]; done)), H', ⟨by have := HK1.out; have := HJ17.out; have := HJ43.out; omega⟩, ⟨by exact qR (Kd.R_mono (Kd.R_far (p := ⟨gb185, 4, none⟩) (Kd.R_types HO_186000.out BK185.out (by decide)) (fun _ hk => hk.2) (.int .i64 ji64)) (fun _ hk => ⟨hk.1.1, ⟨hk.1.2.1, hk.1.2.2⟩⟩))⟩, ⟨by exact qR (Kd.R_mono (Kd.R_far (p := ⟨gb185, 4, none⟩) (Kd.R_types HO_186001.out BK185.out (by decide)) (fun _ hk => hk.2) (.int .i64 ji64)) (fun _ hk => ⟨hk.1.1, ⟨hk.1.2.1, hk.1.2.2⟩⟩))⟩, ⟨by exact qR (Kd.R_mono (Kd.R_far (p := ⟨gb185, 4, none⟩) (Kd.R_types HO_186002.out BK185.out (by decide)) (fun _ hk => hk.2) (.int .i64 ji64)) (fun _ hk => ⟨hk.1.1, ⟨hk.1.2.1, hk.1.2.2⟩⟩))⟩, ⟨by exact qR (Kd.R_mono (Kd.R_far (p := ⟨gb185, 4, none⟩) (Kd.R_types HO_186003.out BK185.out (by decide)) (fun _ hk => hk.2) (.int .i64 ji64)) (fun _ hk => ⟨hk.1.1, ⟨hk.1.2.1, hk.1.2.2⟩⟩))⟩, ⟨by (with_reducible repeat (first | refine blk_drewN ?_ _ | refine blk_drew ?_ | refine blk_alloc ?_ _)); refine blk_far ?_ NB182_185.out _; exact qB BK182.out⟩, ⟨by (with_reducible repeat (first | refine blk_drewN ?_ _ | refine blk_drew ?_ | refine blk_alloc ?_ _)); refine blk_far ?_ NB183_185.out _; exact qB BK183.out⟩, ⟨by (with_reducible repeat (first | refine blk_drewN ?_ _ | refine blk_drew ?_ | refine blk_alloc ?_ _)); refine blk_put (cs := #[u186000, u186001, u186002, u186003, .int .i64 x186004_1]) ?_ 4 _ rfl; exact qB BK185.out⟩, ⟨by repeat (first | (with_reducible first | exact HB.out | apply below_alloc | apply pw_below_drewN | apply below_drew1 | refine below_set ?_ GE182.out | refine below_set ?_ GE183.out | refine below_set ?_ GE185.out) | exact HB.out)⟩⟩
        ·rw [if_neg c63] at H
         have c63b0 : (x9_1 == 0) = false := beq_eq_false_iff_ne.mpr c63
         have c63b1 : (x9_1 != 0) = true := bne_iff_ne.mpr c63
         obtain ⟨ji68, hji68⟩ : ∃ j_ : Int, (wrap64 (x9_1 - 1)) = j_ := ⟨_, rfl⟩
         replace H : (if 0 ≤ (ji68) then (if (ji68) < (x186003_43.length : Int) then (if (wrap64 ((wrap64 (t187 + a0_3)) + a0_4)) > (rd x186003_43 (ji68)) then (standbyref56_Plan.l0 kj43 (wrap64 (Int.tdiv (wrap64 ((wrap64 ((l0_0.length : Int) + a0_2)) - 1)) a0_2)) t187 (wrap64 ((wrap64 (x9_1 + 1)) * a0_2)) (wrap64 (x9_1 + 1)) l0_0 l0_1 a0_2 a0_3 a0_4 x186000_17 x186001_17 x186002_43 x186003_43 (mx x186004_1 (wrap64 ((wrap64 ((wrap64 ((wrap64 (t187 + a0_3)) + a0_4)) - 1)) - x8_1)))) else (standbyref56_Plan.l0 kj43 (wrap64 (Int.tdiv (wrap64 ((wrap64 ((l0_0.length : Int) + a0_2)) - 1)) a0_2)) t187 (wrap64 ((wrap64 (x9_1 + 1)) * a0_2)) (wrap64 (x9_1 + 1)) l0_0 l0_1 a0_2 a0_3 a0_4 x186000_17 x186001_17 x186002_43 x186003_43 x186004_1)) else (none)) else (none)) = some (r1, r2, r3, r4, r5, r6) := by first | (rw [hji68] at H; exact H) | (simp only [hji68] at H ⊢; exact H)
         have hji68w : (IntKind.i64.wrap (x9_1 - 1)) = ji68 := (i64_w _).trans hji68
         by_cases c69 : 0 ≤ (ji68)
         case neg =>
          rw [if_neg c69] at H
          exact absurd H (by simp)
         rw [if_pos c69] at H
         have c69b0 : decide (0 ≤ (ji68)) = true := decide_eq_true c69
         clear c69
         by_cases c70 : (ji68) < (x186003_43.length : Int)
         case neg =>
          rw [if_neg c70] at H
          exact absurd H (by simp)
         rw [if_pos c70] at H
         have c70b0 : decide ((ji68) < (x186003_43.length : Int)) = true := decide_eq_true c70
         clear c70
         by_cases c71 : (wrap64 ((wrap64 (t187 + a0_3)) + a0_4)) > (rd x186003_43 (ji68))
         case neg =>
          rw [if_neg c71] at H
          have c71b0 : decide ((rd x186003_43 (ji68)) < (wrap64 ((wrap64 (t187 + a0_3)) + a0_4))) = false := decide_eq_false c71
          clear c71
          have H' := Aside0.mk H
          clear H
          have hnb77 := NB185_182.out
          have hnc77 := NB182_185.out
          have hnb78 := NB185_183.out
          have hnc78 := NB183_185.out
          have hcz79_0 : wc.cell? ⟨gb185, 0, none⟩ = some (u186000) := (blk_cell BK185.out 0).trans rfl
          have hcz79_1 : wc.cell? ⟨gb185, 1, none⟩ = some (u186001) := (blk_cell BK185.out 1).trans rfl
          have hcz79_2 : wc.cell? ⟨gb185, 2, none⟩ = some (u186002) := (blk_cell BK185.out 2).trans rfl
          have hcz79_3 : wc.cell? ⟨gb185, 3, none⟩ = some (u186003) := (blk_cell BK185.out 3).trans rfl
          have hcz79_4 : wc.cell? ⟨gb185, 4, none⟩ = some (.int .i64 x186004_1) := (blk_cell BK185.out 4).trans rfl
          have hfz79_0 := blk_frozen BK185.out 0
          have hfz79_1 := blk_frozen BK185.out 1
          have hfz79_2 := blk_frozen BK185.out 2
          have hfz79_3 := blk_frozen BK185.out 3
          have hfz79_4 := blk_frozen BK185.out 4
          obtain ⟨Ao80, co80, eo80⟩ := Kd.R_slice HO_186003.out
          subst eo80
          have p213 : 0 ≤ ((ji68) : Int) := of_decide_eq_true (by first | (with_reducible assumption) | assumption)
          have q213 : (ji68) < (x186003_43.length : Int) := of_decide_eq_true (by first | (with_reducible assumption) | assumption)
          obtain ⟨ad213, e213, hx213_0⟩ := Kd.at_int (Kd.R_reads' HO_186003.out).2.2 (ji68) p213 q213
          cases e213
          replace p213 := eq_true p213
          replace q213 := eq_true q213
          go_wp2
          go_roundg kj43
          case measure => have := HK1.out; have := HJ17.out; have := HJ43.out; omega
          case rel => exact ⟨(t187), ((wrap64 ((wrap64 (x9_1 + 1)) * a0_2))), (wrap64 (x9_1 + 1)), (x184004_1), (x186000_17), (x186001_17), (x186002_43), (x186003_43), (x186004_1), (u186000), (u186001), (u186002), (.slice (some ad213) x186003_43.length co80), (by first | rfl | (simp; done) | (simp [*]; done)), (by first | rfl | (simp; done) | (simp [*]; done)), (by first | rfl | (simp; done) | (simp [*]; done)), H', ⟨by have := HK1.out; have := HJ17.out; have := HJ43.out; omega⟩, ⟨by exact qR HO_186000.out⟩, ⟨by exact qR HO_186001.out⟩, ⟨by exact qR HO_186002.out⟩, ⟨by exact qR HO_186003.out⟩, ⟨by exact qB BK182.out⟩, ⟨by exact qB BK183.out⟩, ⟨by exact qB BK185.out⟩, ⟨by repeat (first | (with_reducible first | exact HB.out | apply below_alloc | apply pw_below_drewN | apply below_drew1 | refine below_set ?_ GE182.out | refine below_set ?_ GE183.out | refine below_set ?_ GE185.out) | exact HB.out)⟩⟩
         rw [if_pos c71] at H
         have c71b0 : decide ((rd x186003_43 (ji68)) < (wrap64 ((wrap64 (t187 + a0_3)) + a0_4))) = true := decide_eq_true c71
         clear c71
         obtain ⟨ji72, hji72⟩ : ∃ j_ : Int, (mx x186004_1 (wrap64 ((wrap64 ((wrap64 ((wrap64 (t187 + a0_3)) + a0_4)) - 1)) - x8_1))) = j_ := ⟨_, rfl⟩
         replace H : (standbyref56_Plan.l0 kj43 (wrap64 (Int.tdiv (wrap64 ((wrap64 ((l0_0.length : Int) + a0_2)) - 1)) a0_2)) t187 (wrap64 ((wrap64 (x9_1 + 1)) * a0_2)) (wrap64 (x9_1 + 1)) l0_0 l0_1 a0_2 a0_3 a0_4 x186000_17 x186001_17 x186002_43 x186003_43 ji72) = some (r1, r2, r3, r4, r5, r6) := by first | (rw [hji72] at H; exact H) | (simp only [hji72] at H ⊢; exact H)
         have hji72_ : (if x186004_1 < (wrap64 ((wrap64 ((wrap64 ((wrap64 (t187 + a0_3)) + a0_4)) - 1)) - x8_1)) then (wrap64 ((wrap64 ((wrap64 ((wrap64 (t187 + a0_3)) + a0_4)) - 1)) - x8_1)) else x186004_1) = ji72 := hji72
         have H' := Aside0.mk H
         clear H
         have hnb73 := NB185_182.out
         have hnc73 := NB182_185.out
         have hnb74 := NB185_183.out
         have hnc74 := NB183_185.out
         have hcz75_0 : wc.cell? ⟨gb185, 0, none⟩ = some (u186000) := (blk_cell BK185.out 0).trans rfl
         have hcz75_1 : wc.cell? ⟨gb185, 1, none⟩ = some (u186001) := (blk_cell BK185.out 1).trans rfl
         have hcz75_2 : wc.cell? ⟨gb185, 2, none⟩ = some (u186002) := (blk_cell BK185.out 2).trans rfl
         have hcz75_3 : wc.cell? ⟨gb185, 3, none⟩ = some (u186003) := (blk_cell BK185.out 3).trans rfl
         have hcz75_4 : wc.cell? ⟨gb185, 4, none⟩ = some (.int .i64 x186004_1) := (blk_cell BK185.out 4).trans rfl
         have hfz75_0 := blk_frozen BK185.out 0
         have hfz75_1 := blk_frozen BK185.out 1
         have hfz75_2 := blk_frozen BK185.out 2
         have hfz75_3 := blk_frozen BK185.out 3
         have hfz75_4 := blk_frozen BK185.out 4
         obtain ⟨Ao76, co76, eo76⟩ := Kd.R_slice HO_186003.out
         subst eo76
         have p213 : 0 ≤ ((ji68) : Int) := of_decide_eq_true (by first | (with_reducible assumption) | assumption)
         have q213 : (ji68) < (x186003_43.length : Int) := of_decide_eq_true (by first | (with_reducible assumption) | assumption)
         obtain ⟨ad213, e213, hx213_0⟩ := Kd.at_int (Kd.R_reads' HO_186003.out).2.2 (ji68) p213 q213
         cases e213
         replace p213 := eq_true p213
         replace q213 := eq_true q213
         go_wp2
         go_roundg kj43
         case measure => have := HK1.out; have := HJ17.out; have := HJ43.out; omega
         case rel => exact ⟨(t187), ((wrap64 ((wrap64 (x9_1 + 1)) * a0_2))), (wrap64 (x9_1 + 1)), (x184004_1), (x186000_17), (x186001_17), (x186002_43), (x186003_43), (ji72), (u186000), (u186001), (u186002), (.slice (some ad213) x186003_43.length co76), (by first | rfl | (simp; done) | (simp [*]; done)), (by first | rfl | (simp; done) | (simp [*]; done)), (by first | rfl | (simp; done) | (simp [*]; done)), H', ⟨by have := HK1.out; have := HJ17.out; have := HJ43.out; omega⟩, ⟨by exact qR (Kd.R_mono (Kd.R_far (p := ⟨gb185, 4, none⟩) (Kd.R_types HO_186000.out BK185.out (by decide)) (fun _ hk => hk.2) (.int .i64 ji72)) (fun _ hk => ⟨hk.1.1, ⟨hk.1.2.1, hk.1.2.2⟩⟩))⟩, ⟨by exact qR (Kd.R_mono (Kd.R_far (p := ⟨gb185, 4, none⟩) (Kd.R_types HO_186001.out BK185.out (by decide)) (fun _ hk => hk.2) (.int .i64 ji72)) (fun _ hk => ⟨hk.1.1, ⟨hk.1.2.1, hk.1.2.2⟩⟩))⟩, ⟨by exact qR (Kd.R_mono (Kd.R_far (p := ⟨gb185, 4, none⟩) (Kd.R_types HO_186002.out BK185.out (by decide)) (fun _ hk => hk.2) (.int .i64 ji72)) (fun _ hk => ⟨hk.1.1, ⟨hk.1.2.1, hk.1.2.2⟩⟩))⟩, ⟨by exact qR (Kd.R_mono (Kd.R_far (p := ⟨gb185, 4, none⟩) (Kd.R_types HO_186003.out BK185.out (by decide)) (fun _ hk => hk.2) (.int .i64 ji72)) (fun _ hk => ⟨hk.1.1, ⟨hk.1.2.1, hk.1.2.2⟩⟩))⟩, ⟨by (with_reducible repeat (first | refine blk_drewN ?_ _ | refine blk_drew ?_ | refine blk_alloc ?_ _)); refine blk_far ?_ NB182_185.out _; exact qB BK182.out⟩, ⟨by (with_reducible repeat (first | refine blk_drewN ?_ _ | refine blk_drew ?_ | refine blk_alloc ?_ _)); refine blk_far ?_ NB183_185.out _; exact qB BK183.out⟩, ⟨by (with_reducible repeat (first | refine blk_drewN ?_ _ | refine blk_drew ?_ | refine blk_alloc ?_ _)); refine blk_put (cs := #[u186000, u186001, u186002, .slice (some ad213) x186003_43.length co76, .int .i64 x186004_1]) ?_ 4 _ rfl; exact qB BK185.out⟩, ⟨by repeat (first | (with_reducible first | exact HB.out | apply below_alloc | apply pw_below_drewN | apply below_drew1 | refine below_set ?_ GE182.out | refine below_set ?_ GE183.out | refine below_set ?_ GE185.out) | exact HB.out)⟩⟩
end Go.Proofs.Ytcflacjidabppaa.Pr

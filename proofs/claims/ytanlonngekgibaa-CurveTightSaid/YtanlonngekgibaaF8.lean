-- Written by pp.py, a program of this session, over the translation of the given program; a machine's text: Lean checks it.
import Derived.Test.YtanlonngekgibaaGShort
import Derived.Test.YtanlonngekgibaaF11
import Derived.Test.YtanlonngekgibaaF16
import Derived.Test.YtanlonngekgibaaF18
import Derived.Test.YtanlonngekgibaaF23
import Derived.Test.YtanlonngekgibaaGDelay
namespace Go.Proofs.Ytanlonngekgibaa.Pr
open Go.RowKit Go.Proofs.YtanlonngekgibaaW.PrintWords Go.Proofs.YtanlonngekgibaaW.PrintLast Go.Proofs.YtanlonngekgibaaW.PrintMore
attribute [local go_sem] max2_int min2_int max_two min_two max_three min_three max_four min_four   -- for this text's walks alone
set_option linter.unusedVariables false
set_option linter.unusedSimpArgs false

/-! ### standbylaw55_CurveTight: function 8 -/
mutual
def standbylaw55_CurveTight.j0 : Nat → Int → Bool → List Int → Int → List Int → Int → Option (Bool)
 | 0, _, _, _, _, _, _ => none
 | k + 1, x2, x33, x427000, x427001, x428000, x428001 => if x33 = true then ((standbylaw55_awake.f k).bind fun t435 => (some t435)) else ((curve_Delay.f k x427000 x427001 x428000 x428001).bind fun bt436 => (if bt436.2 = 0 then (standbylaw55_CurveTight.j1 k (wrap64 (x2)) bt436.1 (decide (bt436.1 < 536870912)) x427000 x427001 x428000 x428001) else (standbylaw55_CurveTight.j1 k (wrap64 (x2)) bt436.1 false x427000 x427001 x428000 x428001)))
def standbylaw55_CurveTight.j1 : Nat → Int → Int → Bool → List Int → Int → List Int → Int → Option (Bool)
 | 0, _, _, _, _, _, _, _ => none
 | k + 1, x7, x8, x48, x427000, x427001, x428000, x428001 => if x48 = true then (if x8 < 0 then (none) else ((curve_At.f k x428000 x428001 (wrap64 (x7 + x8))).bind fun t438 => ((curve_At.f k x427000 x427001 x7).bind fun t439 => (if t438 < t439 then (none) else (standbylaw55_CurveTight.l0 k x7 x8 (x8 == 0) 0 x427000 x427001 x428000 x428001))))) else (standbylaw55_CurveTight.j3 k x7 x427000 x427001 x428000 x428001)
def standbylaw55_CurveTight.j3 : Nat → Int → List Int → Int → List Int → Int → Option (Bool)
 | 0, _, _, _, _, _ => none
 | k + 1, x7, x427000, x427001, x428000, x428001 => (curve_Backlog.f k x427000 x427001 x428000 x428001).bind fun bt442 => (if bt442.2 = 0 then (if bt442.1 < 0 then (none) else ((curve_At.f k x427000 x427001 x7).bind fun t444 => ((curve_At.f k x428000 x428001 x7).bind fun t445 => (if (wrap64 (t444 - t445)) > bt442.1 then (none) else (standbylaw55_CurveTight.l1 k bt442.1 (bt442.1 == 0) 0 x427000 x427001 x428000 x428001))))) else ((standbylaw55_awake.f k).bind fun t449 => (some t449)))
def standbylaw55_CurveTight.l1 : Nat → Int → Bool → Int → List Int → Int → List Int → Int → Option (Bool)
 | 0, _, _, _, _, _, _, _ => none
 | k + 1, x12, x14, x106, x427000, x427001, x428000, x428001 => if x106 < 70 then (if x14 = true then (standbylaw55_CurveTight.l1 k x12 true (wrap64 (x106 + 1)) x427000 x427001 x428000 x428001) else ((curve_At.f k x427000 x427001 x106).bind fun t446 => ((curve_At.f k x428000 x428001 x106).bind fun t447 => (standbylaw55_CurveTight.l1 k x12 ((wrap64 (t446 - t447)) == x12) (wrap64 (x106 + 1)) x427000 x427001 x428000 x428001)))) else (if x14 = true then ((standbylaw55_awake.f k).bind fun t448 => (some t448)) else (none))
def standbylaw55_CurveTight.l0 : Nat → Int → Int → Bool → Int → List Int → Int → List Int → Int → Option (Bool)
 | 0, _, _, _, _, _, _, _, _ => none
 | k + 1, x7, x8, x10, x64, x427000, x427001, x428000, x428001 => if x64 < 70 then (if x10 = true then (standbylaw55_CurveTight.l0 k x7 x8 true (wrap64 (x64 + 1)) x427000 x427001 x428000 x428001) else ((curve_At.f k x428000 x428001 (wrap64 ((wrap64 (x64 + x8)) - 1))).bind fun t440 => ((curve_At.f k x427000 x427001 x64).bind fun t441 => (standbylaw55_CurveTight.l0 k x7 x8 (decide (t440 < t441)) (wrap64 (x64 + 1)) x427000 x427001 x428000 x428001)))) else (if x10 = true then (standbylaw55_CurveTight.j3 k x7 x427000 x427001 x428000 x428001) else (none))
end
def standbylaw55_CurveTight.f (k : Nat) (l0_0 : List Int) (a0_1 : Int) (l1_0 : List Int) (a1_1 : Int) (a2 : Int) : Option (Bool) := (standbyref55_Few.f l0_0 a0_1).bind fun t428 => (if t428 = true then ((standbyref55_Few.f l1_0 a1_1).bind fun t429 => (if t429 = true then ((curve_Check.f k l0_0 a0_1).bind fun t430 => (if t430 = 0 then ((curve_Check.f k l1_0 a1_1).bind fun t431 => (standbylaw55_CurveTight.j0 k a2 (t431 != 0) l0_0 a0_1 l1_0 a1_1)) else (standbylaw55_CurveTight.j0 k a2 true l0_0 a0_1 l1_0 a1_1))) else (standbylaw55_CurveTight.j0 k a2 true l0_0 a0_1 l1_0 a1_1))) else (standbylaw55_CurveTight.j0 k a2 true l0_0 a0_1 l1_0 a1_1))
def standbylaw55_CurveTight.T6 : Bool × List (List Nat × List Nat) := (true, [([], []), ([0], [0]), ([1], [1]), ([2], [2]), ([2], [2]), ([2], [2]), ([4, 5, 2], [2, 4, 5]), ([3, 6, 2, 2], [2, 3, 6]), ([2], [2]), ([2], [2]), ([8, 9, 7, 2], [2, 8, 9]), ([7, 10, 2], [2, 7, 10]), ([2, 11], [2, 11])])
def standbylaw55_CurveTight.B6 : List Nat := [0, 1, 3, 7, 7, 7, 55, 127, 7, 7, 1023, 2047, 4095]
theorem standbylaw55_CurveTight.tab6 : rtab .any (opsOf Try.f8 6) = standbylaw55_CurveTight.T6 := by kernel_rfl
theorem standbylaw55_CurveTight.bits6 : waitsOk standbylaw55_CurveTight.T6.2 standbylaw55_CurveTight.B6 = true := by kernel_rfl
def standbylaw55_CurveTight.T12 : Bool × List (List Nat × List Nat) := (true, [([], []), ([0], [0]), ([1], [1]), ([1], [1]), ([1], [1]), ([3, 4, 1], [1, 3, 4]), ([5, 1], [1, 5]), ([2, 6, 1, 1], [1, 2, 6]), ([1], [1]), ([1], [1]), ([8, 9, 7, 1], [1, 8, 9]), ([7, 10, 1], [1, 7, 10]), ([1, 11], [1, 11]), ([12, 10, 0, 1, 2, 3, 4, 5, 6, 7, 8, 9, 10, 11, 12], [0, 12])])
def standbylaw55_CurveTight.B12 : List Nat := [0, 1, 3, 3, 3, 27, 59, 127, 3, 3, 1023, 2047, 4095, 8191]
theorem standbylaw55_CurveTight.tab12 : rtab .any (opsOf Try.f8 12) = standbylaw55_CurveTight.T12 := by kernel_rfl
theorem standbylaw55_CurveTight.bits12 : waitsOk standbylaw55_CurveTight.T12.2 standbylaw55_CurveTight.B12 = true := by kernel_rfl
def standbylaw55_CurveTight.T18 : Bool × List (List Nat × List Nat) := (true, [([], []), ([0], [0]), ([1], [1]), ([2], [2]), ([2], [2]), ([3, 4, 2, 2], [2, 3, 4]), ([2], [2]), ([2], [2]), ([6, 7, 5, 2], [2, 6, 7]), ([5, 8, 2], [2, 5, 8]), ([2], [2]), ([9, 10, 2], [2, 9, 10]), ([2, 11], [2, 11])])
def standbylaw55_CurveTight.B18 : List Nat := [0, 1, 3, 7, 7, 31, 7, 7, 255, 511, 7, 2047, 4095]
theorem standbylaw55_CurveTight.tab18 : rtab .any (opsOf Try.f8 18) = standbylaw55_CurveTight.T18 := by kernel_rfl
theorem standbylaw55_CurveTight.bits18 : waitsOk standbylaw55_CurveTight.T18.2 standbylaw55_CurveTight.B18 = true := by kernel_rfl
def standbylaw55_CurveTight.T24 : Bool × List (List Nat × List Nat) := (true, [([], []), ([0], [0]), ([1], [1]), ([1], [1]), ([2, 3, 1, 1], [1, 2, 3]), ([1], [1]), ([1], [1]), ([5, 6, 4, 1], [1, 5, 6]), ([4, 7, 1], [1, 4, 7]), ([1], [1]), ([8, 9, 1], [1, 8, 9]), ([1, 10], [1, 10]), ([11, 7, 0, 1, 2, 3, 4, 5, 6, 7, 8, 9, 10, 11], [0, 11])])
def standbylaw55_CurveTight.B24 : List Nat := [0, 1, 3, 3, 15, 3, 3, 127, 255, 3, 1023, 2047, 4095]
theorem standbylaw55_CurveTight.tab24 : rtab .any (opsOf Try.f8 24) = standbylaw55_CurveTight.T24 := by kernel_rfl
theorem standbylaw55_CurveTight.bits24 : waitsOk standbylaw55_CurveTight.T24.2 standbylaw55_CurveTight.B24 = true := by kernel_rfl
set_option maxHeartbeats 8000000 in
set_option maxRecDepth 100000 in
theorem standbylaw55_CurveTight.calls (k : Nat) (A0_0 : Option Addr) (c0_0 : Nat) (l0_0 : List Int) (a0_1 : Int) (A1_0 : Option Addr) (c1_0 : Nat) (l1_0 : List Int) (a1_1 : Int) (a2 : Int) (r : Bool) (w : World) (hr0_0 : Kd.C (Kd.int .i64) w A0_0 l0_0.length l0_0) (hc0_0 : l0_0.length ≤ c0_0) (hr1_0 : Kd.C (Kd.int .i64) w A1_0 l1_0.length l1_0) (hc1_0 : l1_0.length ≤ c1_0) (h : standbylaw55_CurveTight.f k l0_0 a0_1 l1_0 a1_1 a2 = some r) :
  Calls Try.prog 8 #[.agg #[.slice A0_0 l0_0.length c0_0, .int .i64 a0_1], .agg #[.slice A1_0 l1_0.length c1_0, .int .i64 a1_1], .int .u8 a2] w fun e w' => e = .returned (.bool r) ∧ Below w.heap.size w w' := by
 have hu24 := Try.underlying24
 have HR0_0 := Aside0.mk hr0_0
 have HC0_0 := Aside0.mk hc0_0
 clear hr0_0 hc0_0
 have HR1_0 := Aside0.mk hr1_0
 have HC1_0 := Aside0.mk hc1_0
 clear hr1_0 hc1_0
 have HB := Aside0.mk (Below.refl w.heap.size w)
 have H : ((standbyref55_Few.f l0_0 a0_1).bind fun t428 => (if t428 = true then ((standbyref55_Few.f l1_0 a1_1).bind fun t429 => (if t429 = true then ((curve_Check.f k l0_0 a0_1).bind fun t430 => (if t430 = 0 then ((curve_Check.f k l1_0 a1_1).bind fun t431 => (standbylaw55_CurveTight.j0 k a2 (t431 != 0) l0_0 a0_1 l1_0 a1_1)) else (standbylaw55_CurveTight.j0 k a2 true l0_0 a0_1 l1_0 a1_1))) else (standbylaw55_CurveTight.j0 k a2 true l0_0 a0_1 l1_0 a1_1))) else (standbylaw55_CurveTight.j0 k a2 true l0_0 a0_1 l1_0 a1_1))) = some r := h
 clear h
 have HC4 := Aside0.mk H
 clear H
 go_enter Try.func8, Try.ntmps8
 go_upto_region 1 with (first | ((with_reducible refine gate_dst (N := 3) rfl ?_); refine box_event ?hg (N := 3) ?hd (cs := #[.slice A0_0 l0_0.length c0_0, .int .i64 a0_1]) (t := 24) ?hr ?_; (case hd => rfl); (case hg => rfl); (case hr => first | (go_simp; done) | (go_simp; rfl)); intro gb426 hg w5 hbox hb; have n0_ := Aside0.mk (below_step (qW HB.out) hb); have n1_ := Aside0.mk (hbox); have n2_ := Aside0.mk ((by rw [hg]; exact (below_size (qW HB.out)) : w.heap.size ≤ gb426)); have n3_ := Aside0.mk ((by rw [hg]; exact (below_size (qW HB.out)) : w.heap.size ≤ gb426)); clear HB; have HB := n0_; have BK426 := n1_; have GW426 := n2_; have GE426 := n3_; clear n0_ n1_ n2_ n3_ hb hbox hg) | ((with_reducible refine gate_dst (N := 4) rfl ?_); refine box_event ?hg (N := 4) ?hd (cs := #[.slice A1_0 l1_0.length c1_0, .int .i64 a1_1]) (t := 24) ?hr ?_; (case hd => rfl); (case hg => rfl); (case hr => first | (go_simp; done) | (go_simp; rfl)); intro gb427 hg w6 hbox hb; have n0_ := Aside0.mk (blk_below (qB BK426.out) hb); have n1_ := Aside0.mk (below_step (qW HB.out) hb); have n2_ := Aside0.mk (hbox); have n3_ := Aside0.mk ((by rw [hg]; exact (below_size (qW HB.out)) : w.heap.size ≤ gb427)); have n4_ := Aside0.mk ((by rw [hg]; exact (below_size (qW HB.out)) : w.heap.size ≤ gb427)); have n5_ := Aside0.mk ((by rw [hg]; exact Nat.ne_of_lt (blk_lt (qB BK426.out)) : gb426 ≠ gb427)); have n6_ := Aside0.mk ((by rw [hg]; exact Nat.ne_of_gt (blk_lt (qB BK426.out)) : gb427 ≠ gb426)); clear BK426 HB; have BK426 := n0_; have HB := n1_; have BK427 := n2_; have GW427 := n3_; have GE427 := n4_; have NB426_427 := n5_; have NB427_426 := n6_; clear n0_ n1_ n2_ n3_ n4_ n5_ n6_ hb hbox hg))
 (try simp only [Act.put, List.setIfInBounds_toArray, List.set_cons_zero, List.set_cons_succ])
 go_cut [33] (fun v33 wc => ∃ (kq : Nat) (x33_3 : Bool), v33 = .bool x33_3 ∧ Aside0 (standbylaw55_CurveTight.j0 kq a2 x33_3 l0_0 a0_1 l1_0 a1_1 = some r) ∧ Aside0 (kq ≤ k) ∧ Aside0 (wc.heap[gb426]? = some (.cells #[(.slice A0_0 l0_0.length c0_0), .int .i64 a0_1] 24 (0, 0))) ∧ Aside0 (wc.heap[gb427]? = some (.cells #[(.slice A1_0 l1_0.length c1_0), .int .i64 a1_1] 24 (0, 0))) ∧ Aside0 (Below w.heap.size w wc))
 case first =>
  have H := HC4.out
  clear HC4
  replace H := Option.bind_eq_some_iff.mp H
  obtain ⟨t428, A70, H⟩ := H
  replace H : (if t428 = true then ((standbyref55_Few.f l1_0 a1_1).bind fun t429 => (if t429 = true then ((curve_Check.f k l0_0 a0_1).bind fun t430 => (if t430 = 0 then ((curve_Check.f k l1_0 a1_1).bind fun t431 => (standbylaw55_CurveTight.j0 k a2 (t431 != 0) l0_0 a0_1 l1_0 a1_1)) else (standbylaw55_CurveTight.j0 k a2 true l0_0 a0_1 l1_0 a1_1))) else (standbylaw55_CurveTight.j0 k a2 true l0_0 a0_1 l1_0 a1_1))) else (standbylaw55_CurveTight.j0 k a2 true l0_0 a0_1 l1_0 a1_1)) = some r := H
  have A7 := Aside0.mk A70
  clear A70
  by_cases c8 : t428 = true
  case neg =>
   replace c8 := Bool.eq_false_iff.mpr c8
   subst c8
   have H1 : (standbylaw55_CurveTight.j0 k a2 true l0_0 a0_1 l1_0 a1_1) = some r := by rw [if_neg (show ¬ (false = true) by decide)] at H; exact H
   clear H
   have H := H1
   clear H1
   have H' := Aside0.mk H
   clear H
   have hnb35 := NB426_427.out
   have hnc35 := NB427_426.out
   have hcz36_0 : w6.cell? ⟨gb426, 0, none⟩ = some (.slice A0_0 l0_0.length c0_0) := (blk_cell BK426.out 0).trans rfl
   have hcz36_1 : w6.cell? ⟨gb426, 1, none⟩ = some (.int .i64 a0_1) := (blk_cell BK426.out 1).trans rfl
   have hfz36_0 := blk_frozen BK426.out 0
   have hfz36_1 := blk_frozen BK426.out 1
   go_wp2_with (first | ((with_reducible refine gate_callee (f := 23) rfl ?_); refine goesL_ (some 17) rfl rfl Try.func23 (by kernel_rfl) rfl #[.agg #[.slice A0_0 l0_0.length c0_0, .int .i64 a0_1]] rfl (by (try simp only [List.map_toArray, List.map_cons, List.map_nil]); first | done | rfl | (simp only [List.length_drop, List.length_take]; rfl)) ?_; (with_reducible refine (standbyref55_Few.calls _ _ l0_0 a0_1 false _ ?side1 ?side2 A7.out).mono ?_); (case side1 => exact qC HR0_0.out HB.out); (case side2 => exact HC0_0.out); rintro e w37 ⟨rfl, hb⟩; refine ⟨_, rfl, ?_⟩; have n0_ := Aside0.mk (blk_below (qB BK426.out) hb); have n1_ := Aside0.mk (blk_below (qB BK427.out) hb); have n2_ := Aside0.mk (below_step (qW HB.out) hb); clear BK426 BK427 HB; have BK426 := n0_; have BK427 := n1_; have HB := n2_; clear n0_ n1_ n2_; (try clear hb); (try clear hb2); (try clear hk); (try clear hi)))
   go_meet
   case rel => exact ⟨_, (true), (by first | rfl | (simp; done) | (simp [*]; done)), H', ⟨by first | omega | exact Nat.le_refl _⟩, ⟨by exact qB BK426.out⟩, ⟨by exact qB BK427.out⟩, ⟨by repeat (first | (with_reducible first | exact HB.out | apply below_alloc | apply pw_below_drewN | apply below_drew1 | refine below_set ?_ GE426.out | refine below_set ?_ GE427.out) | exact HB.out)⟩⟩
  subst c8
  have H1 : ((standbyref55_Few.f l1_0 a1_1).bind fun t429 => (if t429 = true then ((curve_Check.f k l0_0 a0_1).bind fun t430 => (if t430 = 0 then ((curve_Check.f k l1_0 a1_1).bind fun t431 => (standbylaw55_CurveTight.j0 k a2 (t431 != 0) l0_0 a0_1 l1_0 a1_1)) else (standbylaw55_CurveTight.j0 k a2 true l0_0 a0_1 l1_0 a1_1))) else (standbylaw55_CurveTight.j0 k a2 true l0_0 a0_1 l1_0 a1_1))) = some r := by rw [if_pos rfl] at H; exact H
  clear H
  have H := H1
  clear H1
  replace H := Option.bind_eq_some_iff.mp H
  obtain ⟨t429, A90, H⟩ := H
  replace H : (if t429 = true then ((curve_Check.f k l0_0 a0_1).bind fun t430 => (if t430 = 0 then ((curve_Check.f k l1_0 a1_1).bind fun t431 => (standbylaw55_CurveTight.j0 k a2 (t431 != 0) l0_0 a0_1 l1_0 a1_1)) else (standbylaw55_CurveTight.j0 k a2 true l0_0 a0_1 l1_0 a1_1))) else (standbylaw55_CurveTight.j0 k a2 true l0_0 a0_1 l1_0 a1_1)) = some r := H
  have A9 := Aside0.mk A90
  clear A90
  by_cases c10 : t429 = true
  case neg =>
   replace c10 := Bool.eq_false_iff.mpr c10
   subst c10
   have H1 : (standbylaw55_CurveTight.j0 k a2 true l0_0 a0_1 l1_0 a1_1) = some r := by rw [if_neg (show ¬ (false = true) by decide)] at H; exact H
   clear H
   have H := H1
   clear H1
   have H' := Aside0.mk H
   clear H
   have hnb30 := NB426_427.out
   have hnc30 := NB427_426.out
   have hcz31_0 : w6.cell? ⟨gb426, 0, none⟩ = some (.slice A0_0 l0_0.length c0_0) := (blk_cell BK426.out 0).trans rfl
   have hcz31_1 : w6.cell? ⟨gb426, 1, none⟩ = some (.int .i64 a0_1) := (blk_cell BK426.out 1).trans rfl
   have hfz31_0 := blk_frozen BK426.out 0
   have hfz31_1 := blk_frozen BK426.out 1
   go_wp2_with (first | ((with_reducible refine gate_callee (f := 23) rfl ?_); refine goesL_ (some 17) rfl rfl Try.func23 (by kernel_rfl) rfl #[.agg #[.slice A0_0 l0_0.length c0_0, .int .i64 a0_1]] rfl (by (try simp only [List.map_toArray, List.map_cons, List.map_nil]); first | done | rfl | (simp only [List.length_drop, List.length_take]; rfl)) ?_; (with_reducible refine (standbyref55_Few.calls _ _ l0_0 a0_1 true _ ?side1 ?side2 A7.out).mono ?_); (case side1 => exact qC HR0_0.out HB.out); (case side2 => exact HC0_0.out); rintro e w32 ⟨rfl, hb⟩; refine ⟨_, rfl, ?_⟩; have n0_ := Aside0.mk (blk_below (qB BK426.out) hb); have n1_ := Aside0.mk (blk_below (qB BK427.out) hb); have n2_ := Aside0.mk (below_step (qW HB.out) hb); clear BK426 BK427 HB; have BK426 := n0_; have BK427 := n1_; have HB := n2_; clear n0_ n1_ n2_; (try clear hb); (try clear hb2); (try clear hk); (try clear hi); have hcz33_0 : w32.cell? ⟨gb427, 0, none⟩ = some (.slice A1_0 l1_0.length c1_0) := (blk_cell BK427.out 0).trans rfl; have hcz33_1 : w32.cell? ⟨gb427, 1, none⟩ = some (.int .i64 a1_1) := (blk_cell BK427.out 1).trans rfl; have hfz33_0 := blk_frozen BK427.out 0; have hfz33_1 := blk_frozen BK427.out 1) | (go_at_call 23; (with_reducible refine (standbyref55_Few.calls _ _ l1_0 a1_1 false _ ?side1 ?side2 A9.out).mono ?_); (case side1 => exact qC HR1_0.out HB.out); (case side2 => exact HC1_0.out); rintro e w34 ⟨rfl, hb⟩; have n0_ := Aside0.mk (blk_below (qB BK426.out) hb); have n1_ := Aside0.mk (blk_below (qB BK427.out) hb); have n2_ := Aside0.mk (below_step (qW HB.out) hb); clear BK426 BK427 HB; have BK426 := n0_; have BK427 := n1_; have HB := n2_; clear n0_ n1_ n2_; (try clear hb); (try clear hb2); (try clear hk); (try clear hi)))
   go_meet
   case rel => exact ⟨_, (true), (by first | rfl | (simp; done) | (simp [*]; done)), H', ⟨by first | omega | exact Nat.le_refl _⟩, ⟨by exact qB BK426.out⟩, ⟨by exact qB BK427.out⟩, ⟨by repeat (first | (with_reducible first | exact HB.out | apply below_alloc | apply pw_below_drewN | apply below_drew1 | refine below_set ?_ GE426.out | refine below_set ?_ GE427.out) | exact HB.out)⟩⟩
  subst c10
  have H1 : ((curve_Check.f k l0_0 a0_1).bind fun t430 => (if t430 = 0 then ((curve_Check.f k l1_0 a1_1).bind fun t431 => (standbylaw55_CurveTight.j0 k a2 (t431 != 0) l0_0 a0_1 l1_0 a1_1)) else (standbylaw55_CurveTight.j0 k a2 true l0_0 a0_1 l1_0 a1_1))) = some r := by rw [if_pos rfl] at H; exact H
  clear H
  have H := H1
  clear H1
  replace H := Option.bind_eq_some_iff.mp H
  obtain ⟨t430, A110, H⟩ := H
  replace H : (if t430 = 0 then ((curve_Check.f k l1_0 a1_1).bind fun t431 => (standbylaw55_CurveTight.j0 k a2 (t431 != 0) l0_0 a0_1 l1_0 a1_1)) else (standbylaw55_CurveTight.j0 k a2 true l0_0 a0_1 l1_0 a1_1)) = some r := H
  have A11 := Aside0.mk A110
  clear A110
  by_cases c12 : t430 = 0
  case neg =>
   rw [if_neg c12] at H
   have c12b0 : (t430 == 0) = false := beq_eq_false_iff_ne.mpr c12
   have c12b1 : (t430 != 0) = true := bne_iff_ne.mpr c12
   (first | rw [c12b0] | (simp only [i64_w, i32_w]; rw [c12b0]) | skip)
   have H' := Aside0.mk H
   clear H
   have hnb23 := NB426_427.out
   have hnc23 := NB427_426.out
   have hcz24_0 : w6.cell? ⟨gb426, 0, none⟩ = some (.slice A0_0 l0_0.length c0_0) := (blk_cell BK426.out 0).trans rfl
   have hcz24_1 : w6.cell? ⟨gb426, 1, none⟩ = some (.int .i64 a0_1) := (blk_cell BK426.out 1).trans rfl
   have hfz24_0 := blk_frozen BK426.out 0
   have hfz24_1 := blk_frozen BK426.out 1
   go_wp2_with (first | ((with_reducible refine gate_callee (f := 23) rfl ?_); refine goesL_ (some 17) rfl rfl Try.func23 (by kernel_rfl) rfl #[.agg #[.slice A0_0 l0_0.length c0_0, .int .i64 a0_1]] rfl (by (try simp only [List.map_toArray, List.map_cons, List.map_nil]); first | done | rfl | (simp only [List.length_drop, List.length_take]; rfl)) ?_; (with_reducible refine (standbyref55_Few.calls _ _ l0_0 a0_1 true _ ?side1 ?side2 A7.out).mono ?_); (case side1 => exact qC HR0_0.out HB.out); (case side2 => exact HC0_0.out); rintro e w25 ⟨rfl, hb⟩; refine ⟨_, rfl, ?_⟩; have n0_ := Aside0.mk (blk_below (qB BK426.out) hb); have n1_ := Aside0.mk (blk_below (qB BK427.out) hb); have n2_ := Aside0.mk (below_step (qW HB.out) hb); clear BK426 BK427 HB; have BK426 := n0_; have BK427 := n1_; have HB := n2_; clear n0_ n1_ n2_; (try clear hb); (try clear hb2); (try clear hk); (try clear hi); have hcz26_0 : w25.cell? ⟨gb427, 0, none⟩ = some (.slice A1_0 l1_0.length c1_0) := (blk_cell BK427.out 0).trans rfl; have hcz26_1 : w25.cell? ⟨gb427, 1, none⟩ = some (.int .i64 a1_1) := (blk_cell BK427.out 1).trans rfl; have hfz26_0 := blk_frozen BK427.out 0; have hfz26_1 := blk_frozen BK427.out 1) | (go_at_call 23; (with_reducible refine (standbyref55_Few.calls _ _ l1_0 a1_1 true _ ?side1 ?side2 A9.out).mono ?_); (case side1 => exact qC HR1_0.out HB.out); (case side2 => exact HC1_0.out); rintro e w27 ⟨rfl, hb⟩; have n0_ := Aside0.mk (blk_below (qB BK426.out) hb); have n1_ := Aside0.mk (blk_below (qB BK427.out) hb); have n2_ := Aside0.mk (below_step (qW HB.out) hb); clear BK426 BK427 HB; have BK426 := n0_; have BK427 := n1_; have HB := n2_; clear n0_ n1_ n2_; (try clear hb); (try clear hb2); (try clear hk); (try clear hi); have hcz28_0 : w27.cell? ⟨gb426, 0, none⟩ = some (.slice A0_0 l0_0.length c0_0) := (blk_cell BK426.out 0).trans rfl; have hcz28_1 : w27.cell? ⟨gb426, 1, none⟩ = some (.int .i64 a0_1) := (blk_cell BK426.out 1).trans rfl; have hfz28_0 := blk_frozen BK426.out 0; have hfz28_1 := blk_frozen BK426.out 1) | (go_at_call 16; (with_reducible refine (curve_Check.calls k _ _ l0_0 a0_1 t430 _ ?side1 ?side2 A11.out).mono ?_); (case side1 => exact qC HR0_0.out HB.out); (case side2 => exact HC0_0.out); rintro e w29 ⟨rfl, hb⟩; have n0_ := Aside0.mk (blk_below (qB BK426.out) hb); have n1_ := Aside0.mk (blk_below (qB BK427.out) hb); have n2_ := Aside0.mk (below_step (qW HB.out) hb); clear BK426 BK427 HB; have BK426 := n0_; have BK427 := n1_; have HB := n2_; clear n0_ n1_ n2_; (try clear hb); (try clear hb2); (try clear hk); (try clear hi)))
   go_meet
   case rel => exact ⟨_, (true), (by first | rfl | (simp; done) | (simp [*]; done)), H', ⟨by first | omega | exact Nat.le_refl _⟩, ⟨by exact qB BK426.out⟩, ⟨by exact qB BK427.out⟩, ⟨by repeat (first | (with_reducible first | exact HB.out | apply below_alloc | apply pw_below_drewN | apply below_drew1 | refine below_set ?_ GE426.out | refine below_set ?_ GE427.out) | exact HB.out)⟩⟩
  rw [if_pos c12] at H
  have c12b0 : (t430 == 0) = true := beq_iff_eq.mpr c12
  have c12b1 : (t430 != 0) = false := bne_eq_false_iff_eq.mpr c12
  clear c12
  (first | rw [c12b0] | (simp only [i64_w, i32_w]; rw [c12b0]) | skip)
  replace H := Option.bind_eq_some_iff.mp H
  obtain ⟨t431, A130, H⟩ := H
  replace H : (standbylaw55_CurveTight.j0 k a2 (t431 != 0) l0_0 a0_1 l1_0 a1_1) = some r := H
  have A13 := Aside0.mk A130
  clear A130
  have H' := Aside0.mk H
  clear H
  have hnb14 := NB426_427.out
  have hnc14 := NB427_426.out
  have hcz15_0 : w6.cell? ⟨gb426, 0, none⟩ = some (.slice A0_0 l0_0.length c0_0) := (blk_cell BK426.out 0).trans rfl
  have hcz15_1 : w6.cell? ⟨gb426, 1, none⟩ = some (.int .i64 a0_1) := (blk_cell BK426.out 1).trans rfl
  have hfz15_0 := blk_frozen BK426.out 0
  have hfz15_1 := blk_frozen BK426.out 1
  go_wp2_with (first | ((with_reducible refine gate_callee (f := 23) rfl ?_); refine goesL_ (some 17) rfl rfl Try.func23 (by kernel_rfl) rfl #[.agg #[.slice A0_0 l0_0.length c0_0, .int .i64 a0_1]] rfl (by (try simp only [List.map_toArray, List.map_cons, List.map_nil]); first | done | rfl | (simp only [List.length_drop, List.length_take]; rfl)) ?_; (with_reducible refine (standbyref55_Few.calls _ _ l0_0 a0_1 true _ ?side1 ?side2 A7.out).mono ?_); (case side1 => exact qC HR0_0.out HB.out); (case side2 => exact HC0_0.out); rintro e w16 ⟨rfl, hb⟩; refine ⟨_, rfl, ?_⟩; have n0_ := Aside0.mk (blk_below (qB BK426.out) hb); have n1_ := Aside0.mk (blk_below (qB BK427.out) hb); have n2_ := Aside0.mk (below_step (qW HB.out) hb); clear BK426 BK427 HB; have BK426 := n0_; have BK427 := n1_; have HB := n2_; clear n0_ n1_ n2_; (try clear hb); (try clear hb2); (try clear hk); (try clear hi); have hcz17_0 : w16.cell? ⟨gb427, 0, none⟩ = some (.slice A1_0 l1_0.length c1_0) := (blk_cell BK427.out 0).trans rfl; have hcz17_1 : w16.cell? ⟨gb427, 1, none⟩ = some (.int .i64 a1_1) := (blk_cell BK427.out 1).trans rfl; have hfz17_0 := blk_frozen BK427.out 0; have hfz17_1 := blk_frozen BK427.out 1) | (go_at_call 23; (with_reducible refine (standbyref55_Few.calls _ _ l1_0 a1_1 true _ ?side1 ?side2 A9.out).mono ?_); (case side1 => exact qC HR1_0.out HB.out); (case side2 => exact HC1_0.out); rintro e w18 ⟨rfl, hb⟩; have n0_ := Aside0.mk (blk_below (qB BK426.out) hb); have n1_ := Aside0.mk (blk_below (qB BK427.out) hb); have n2_ := Aside0.mk (below_step (qW HB.out) hb); clear BK426 BK427 HB; have BK426 := n0_; have BK427 := n1_; have HB := n2_; clear n0_ n1_ n2_; (try clear hb); (try clear hb2); (try clear hk); (try clear hi); have hcz19_0 : w18.cell? ⟨gb426, 0, none⟩ = some (.slice A0_0 l0_0.length c0_0) := (blk_cell BK426.out 0).trans rfl; have hcz19_1 : w18.cell? ⟨gb426, 1, none⟩ = some (.int .i64 a0_1) := (blk_cell BK426.out 1).trans rfl; have hfz19_0 := blk_frozen BK426.out 0; have hfz19_1 := blk_frozen BK426.out 1) | (go_at_call 16; (with_reducible refine (curve_Check.calls k _ _ l0_0 a0_1 t430 _ ?side1 ?side2 A11.out).mono ?_); (case side1 => exact qC HR0_0.out HB.out); (case side2 => exact HC0_0.out); rintro e w20 ⟨rfl, hb⟩; have n0_ := Aside0.mk (blk_below (qB BK426.out) hb); have n1_ := Aside0.mk (blk_below (qB BK427.out) hb); have n2_ := Aside0.mk (below_step (qW HB.out) hb); clear BK426 BK427 HB; have BK426 := n0_; have BK427 := n1_; have HB := n2_; clear n0_ n1_ n2_; (try clear hb); (try clear hb2); (try clear hk); (try clear hi); have hcz21_0 : w20.cell? ⟨gb427, 0, none⟩ = some (.slice A1_0 l1_0.length c1_0) := (blk_cell BK427.out 0).trans rfl; have hcz21_1 : w20.cell? ⟨gb427, 1, none⟩ = some (.int .i64 a1_1) := (blk_cell BK427.out 1).trans rfl; have hfz21_0 := blk_frozen BK427.out 0; have hfz21_1 := blk_frozen BK427.out 1) | (go_at_call 16; (with_reducible refine (curve_Check.calls k _ _ l1_0 a1_1 t431 _ ?side1 ?side2 A13.out).mono ?_); (case side1 => exact qC HR1_0.out HB.out); (case side2 => exact HC1_0.out); rintro e w22 ⟨rfl, hb⟩; have n0_ := Aside0.mk (blk_below (qB BK426.out) hb); have n1_ := Aside0.mk (blk_below (qB BK427.out) hb); have n2_ := Aside0.mk (below_step (qW HB.out) hb); clear BK426 BK427 HB; have BK426 := n0_; have BK427 := n1_; have HB := n2_; clear n0_ n1_ n2_; (try clear hb); (try clear hb2); (try clear hk); (try clear hi)))
  go_meet
  case rel => exact ⟨_, ((t431 != 0)), (by first | rfl | (simp; done) | (simp [*]; done)), H', ⟨by first | omega | exact Nat.le_refl _⟩, ⟨by exact qB BK426.out⟩, ⟨by exact qB BK427.out⟩, ⟨by repeat (first | (with_reducible first | exact HB.out | apply below_alloc | apply pw_below_drewN | apply below_drew1 | refine below_set ?_ GE426.out | refine below_set ?_ GE427.out) | exact HB.out)⟩⟩
 case rest =>
  clear HC4
  try clear c1
  try clear c2
  try clear p2
  try clear c3
  try clear c8
  try clear c10
  try clear c12
  try clear c12b0
  try clear c12b1
  try clear c14
  try clear c23
  try clear c30
  try clear c35
  try clear hcz15_0
  try clear hcz15_1
  try clear hcz17_0
  try clear hcz17_1
  try clear hcz19_0
  try clear hcz19_1
  try clear hcz21_0
  try clear hcz21_1
  try clear hcz24_0
  try clear hcz24_1
  try clear hcz26_0
  try clear hcz26_1
  try clear hcz28_0
  try clear hcz28_1
  try clear hcz31_0
  try clear hcz31_1
  try clear hcz33_0
  try clear hcz33_1
  try clear hcz36_0
  try clear hcz36_1
  try clear hfz15_0
  try clear hfz15_1
  try clear hfz17_0
  try clear hfz17_1
  try clear hfz19_0
  try clear hfz19_1
  try clear hfz21_0
  try clear hfz21_1
  try clear hfz24_0
  try clear hfz24_1
  try clear hfz26_0
  try clear hfz26_1
  try clear hfz28_0
  try clear hfz28_1
  try clear hfz31_0
  try clear hfz31_1
  try clear hfz33_0
  try clear hfz33_1
  try clear hfz36_0
  try clear hfz36_1
  obtain ⟨kq, x33_3, rfl, HA, HJ3, BK426, BK427, HB⟩ := hcut
  cases kq with
  | zero => exact absurd HA.out (by simp [standbylaw55_CurveTight.j0])
  | succ kj3 =>
   have H := HA.out
   clear HA
   simp only [standbylaw55_CurveTight.j0] at H
   by_cases c38 : x33_3 = true
   ·subst c38
    have H1 : ((standbylaw55_awake.f kj3).bind fun t435 => (some t435)) = some r := by rw [if_pos rfl] at H; exact H
    clear H
    have H := H1
    clear H1
    replace H := Option.bind_eq_some_iff.mp H
    obtain ⟨t435, A390, H⟩ := H
    replace H : (some t435) = some r := H
    have A39 := Aside0.mk A390
    clear A390
    obtain rfl := Option.some.inj H
    go_wp2_with (first | ((with_reducible refine gate_callee (f := 11) rfl ?_); refine goesL_ (some 34) rfl rfl Try.func11 (by kernel_rfl) rfl #[] rfl (by (try simp only [List.map_toArray, List.map_cons, List.map_nil]); first | done | rfl | (simp only [List.length_drop, List.length_take]; rfl)) ?_; (with_reducible refine (standbylaw55_awake.calls kj3  t435 _ A39.out).mono ?_); rintro e w40 ⟨rfl, hb⟩; refine ⟨_, rfl, ?_⟩; have n0_ := Aside0.mk (blk_below (qB BK426.out) hb); have n1_ := Aside0.mk (blk_below (qB BK427.out) hb); have n2_ := Aside0.mk (below_step (qW HB.out) hb); clear BK426 BK427 HB; have BK426 := n0_; have BK427 := n1_; have HB := n2_; clear n0_ n1_ n2_; (try clear hb); (try clear hb2); (try clear hk); (try clear hi)))
    go_ret
    exact ⟨by first | rfl | (simp [errW_none, errW_some] <;> rfl) | (simp [*, errW_none, errW_some] <;> rfl), by repeat (first | (with_reducible first | exact HB.out | apply below_alloc | apply pw_below_drewN | apply below_drew1 | refine below_set ?_ GE426.out | refine below_set ?_ GE427.out) | exact HB.out)⟩
   ·replace c38 := Bool.eq_false_iff.mpr c38
    subst c38
    have H1 : ((curve_Delay.f kj3 l0_0 a0_1 l1_0 a1_1).bind fun bt436 => (if bt436.2 = 0 then (standbylaw55_CurveTight.j1 kj3 (wrap64 (a2)) bt436.1 (decide (bt436.1 < 536870912)) l0_0 a0_1 l1_0 a1_1) else (standbylaw55_CurveTight.j1 kj3 (wrap64 (a2)) bt436.1 false l0_0 a0_1 l1_0 a1_1))) = some r := by rw [if_neg (show ¬ (false = true) by decide)] at H; exact H
    clear H
    have H := H1
    clear H1
    replace H := Option.bind_eq_some_iff.mp H
    obtain ⟨⟨t436, t437⟩, A410, H⟩ := H
    replace H : (if t437 = 0 then (standbylaw55_CurveTight.j1 kj3 (wrap64 (a2)) t436 (decide (t436 < 536870912)) l0_0 a0_1 l1_0 a1_1) else (standbylaw55_CurveTight.j1 kj3 (wrap64 (a2)) t436 false l0_0 a0_1 l1_0 a1_1)) = some r := H
    have A41 := Aside0.mk A410
    clear A410
    have HC42 := Aside0.mk H
    clear H
    have hnb43 := NB426_427.out
    have hnc43 := NB427_426.out
    have hcz44_0 : wc.cell? ⟨gb426, 0, none⟩ = some (.slice A0_0 l0_0.length c0_0) := (blk_cell BK426.out 0).trans rfl
    have hcz44_1 : wc.cell? ⟨gb426, 1, none⟩ = some (.int .i64 a0_1) := (blk_cell BK426.out 1).trans rfl
    have hfz44_0 := blk_frozen BK426.out 0
    have hfz44_1 := blk_frozen BK426.out 1
    have hcz45_0 : wc.cell? ⟨gb427, 0, none⟩ = some (.slice A1_0 l1_0.length c1_0) := (blk_cell BK427.out 0).trans rfl
    have hcz45_1 : wc.cell? ⟨gb427, 1, none⟩ = some (.int .i64 a1_1) := (blk_cell BK427.out 1).trans rfl
    have hfz45_0 := blk_frozen BK427.out 0
    have hfz45_1 := blk_frozen BK427.out 1
    go_upto_region 5 with (first | ((with_reducible refine gate_callee (f := 24) rfl ?_); refine goesL_ (some 40) rfl rfl Try.func24 (by kernel_rfl) rfl #[.agg #[.slice A0_0 l0_0.length c0_0, .int .i64 a0_1], .agg #[.slice A1_0 l1_0.length c1_0, .int .i64 a1_1]] rfl (by (try simp only [List.map_toArray, List.map_cons, List.map_nil]); first | done | rfl | (simp only [List.length_drop, List.length_take]; rfl)) ?_; (with_reducible refine (curve_Delay.calls kj3 _ _ l0_0 a0_1 _ _ l1_0 a1_1 t436 t437 _ ?side1 ?side2 ?side3 ?side4 A41.out).mono ?_); (case side1 => exact qC HR0_0.out HB.out); (case side2 => exact HC0_0.out); (case side3 => exact qC HR1_0.out HB.out); (case side4 => exact HC1_0.out); rintro e w46 ⟨rfl, hb⟩; refine ⟨_, rfl, ?_⟩; have n0_ := Aside0.mk (blk_below (qB BK426.out) hb); have n1_ := Aside0.mk (blk_below (qB BK427.out) hb); have n2_ := Aside0.mk (below_step (qW HB.out) hb); clear BK426 BK427 HB; have BK426 := n0_; have BK427 := n1_; have HB := n2_; clear n0_ n1_ n2_; (try clear hb); (try clear hb2); (try clear hk); (try clear hi)))
    (try simp only [Act.put, List.setIfInBounds_toArray, List.set_cons_zero, List.set_cons_succ])
    go_cut [48] (fun v48 wc => ∃ (kq : Nat) (x48_41 : Bool), v48 = .bool x48_41 ∧ Aside0 (standbylaw55_CurveTight.j1 kq (wrap64 (a2)) t436 x48_41 l0_0 a0_1 l1_0 a1_1 = some r) ∧ Aside0 (kq ≤ kj3) ∧ Aside0 (wc.heap[gb426]? = some (.cells #[(.slice A0_0 l0_0.length c0_0), .int .i64 a0_1] 24 (0, 0))) ∧ Aside0 (wc.heap[gb427]? = some (.cells #[(.slice A1_0 l1_0.length c1_0), .int .i64 a1_1] 24 (0, 0))) ∧ Aside0 (Below w.heap.size w wc))
    case first =>
     have H := HC42.out
     clear HC42
     by_cases c47 : t437 = 0
     ·rw [if_pos c47] at H
      have c47b0 : (t437 == 0) = true := beq_iff_eq.mpr c47
      have c47b1 : (t437 != 0) = false := bne_eq_false_iff_eq.mpr c47
      clear c47
      (first | rw [c47b0] | (simp only [i64_w, i32_w]; rw [c47b0]) | skip)
      have H' := Aside0.mk H
      clear H
      go_wp2
      go_meet
      case rel => exact ⟨_, (decide (t436 < 536870912)), (by first | rfl | (simp; done) | (simp [*]; done)), H', ⟨by have := HJ3.out; first | omega | exact Nat.le_refl _⟩, ⟨by exact qB BK426.out⟩, ⟨by exact qB BK427.out⟩, ⟨by repeat (first | (with_reducible first | exact HB.out | apply below_alloc | apply pw_below_drewN | apply below_drew1 | refine below_set ?_ GE426.out | refine below_set ?_ GE427.out) | exact HB.out)⟩⟩
     ·rw [if_neg c47] at H
      have c47b0 : (t437 == 0) = false := beq_eq_false_iff_ne.mpr c47
      have c47b1 : (t437 != 0) = true := bne_iff_ne.mpr c47
      (first | rw [c47b0] | (simp only [i64_w, i32_w]; rw [c47b0]) | skip)
      have H' := Aside0.mk H
      clear H
      go_wp2
      go_meet
      case rel => exact ⟨_, (false), (by first | rfl | (simp; done) | (simp [*]; done)), H', ⟨by have := HJ3.out; first | omega | exact Nat.le_refl _⟩, ⟨by exact qB BK426.out⟩, ⟨by exact qB BK427.out⟩, ⟨by repeat (first | (with_reducible first | exact HB.out | apply below_alloc | apply pw_below_drewN | apply below_drew1 | refine below_set ?_ GE426.out | refine below_set ?_ GE427.out) | exact HB.out)⟩⟩
    case rest =>
     clear HC42
     try clear c1
     try clear c2
     try clear p2
     try clear c3
     try clear c4
     try clear p6
     try clear c8
     try clear c10
     try clear c11
     try clear c12
     try clear c12b0
     try clear c12b1
     try clear c14
     try clear c23
     try clear c24
     try clear c30
     try clear c35
     try clear c38
     try clear c43
     try clear c47
     try clear c47b0
     try clear c47b1
     try clear hcz15_0
     try clear hcz15_1
     try clear hcz17_0
     try clear hcz17_1
     try clear hcz19_0
     try clear hcz19_1
     try clear hcz21_0
     try clear hcz21_1
     try clear hcz24_0
     try clear hcz24_1
     try clear hcz26_0
     try clear hcz26_1
     try clear hcz28_0
     try clear hcz28_1
     try clear hcz31_0
     try clear hcz31_1
     try clear hcz33_0
     try clear hcz33_1
     try clear hcz36_0
     try clear hcz36_1
     try clear hcz44_0
     try clear hcz44_1
     try clear hcz45_0
     try clear hcz45_1
     try clear hfz15_0
     try clear hfz15_1
     try clear hfz17_0
     try clear hfz17_1
     try clear hfz19_0
     try clear hfz19_1
     try clear hfz21_0
     try clear hfz21_1
     try clear hfz24_0
     try clear hfz24_1
     try clear hfz26_0
     try clear hfz26_1
     try clear hfz28_0
     try clear hfz28_1
     try clear hfz31_0
     try clear hfz31_1
     try clear hfz33_0
     try clear hfz33_1
     try clear hfz36_0
     try clear hfz36_1
     try clear hfz44_0
     try clear hfz44_1
     try clear hfz45_0
     try clear hfz45_1
     try clear p2
     obtain ⟨kq, x48_41, rfl, HA, HJ41, BK426, BK427, HB⟩ := hcut
     cases kq with
     | zero => exact absurd HA.out (by simp [standbylaw55_CurveTight.j1])
     | succ kj41 =>
      have H := HA.out
      clear HA
      simp only [standbylaw55_CurveTight.j1] at H
      have HC48 := Aside0.mk H
      clear H
      go_upto_if 48 with (fail)
      go_cut [] (fun wc => ∃ (kq : Nat), Aside0 (standbylaw55_CurveTight.j3 kq (wrap64 (a2)) l0_0 a0_1 l1_0 a1_1 = some r) ∧ Aside0 (kq ≤ kj41) ∧ Aside0 (wc.heap[gb426]? = some (.cells #[(.slice A0_0 l0_0.length c0_0), .int .i64 a0_1] 24 (0, 0))) ∧ Aside0 (wc.heap[gb427]? = some (.cells #[(.slice A1_0 l1_0.length c1_0), .int .i64 a1_1] 24 (0, 0))) ∧ Aside0 (Below w.heap.size w wc))
      case first =>
       have H := HC48.out
       clear HC48
       by_cases c49 : x48_41 = true
       case neg =>
        replace c49 := Bool.eq_false_iff.mpr c49
        subst c49
        have H1 : (standbylaw55_CurveTight.j3 kj41 (wrap64 (a2)) l0_0 a0_1 l1_0 a1_1) = some r := by rw [if_neg (show ¬ (false = true) by decide)] at H; exact H
        clear H
        have H := H1
        clear H1
        have H' := Aside0.mk H
        clear H
        go_wp2
        go_meet
        case rel => exact ⟨_, H', ⟨by have := HJ3.out; have := HJ41.out; first | omega | exact Nat.le_refl _⟩, ⟨by exact qB BK426.out⟩, ⟨by exact qB BK427.out⟩, ⟨by repeat (first | (with_reducible first | exact HB.out | apply below_alloc | apply pw_below_drewN | apply below_drew1 | refine below_set ?_ GE426.out | refine below_set ?_ GE427.out) | exact HB.out)⟩⟩
       subst c49
       have H1 : (if t436 < 0 then (none) else ((curve_At.f kj41 l1_0 a1_1 (wrap64 ((wrap64 (a2)) + t436))).bind fun t438 => ((curve_At.f kj41 l0_0 a0_1 (wrap64 (a2))).bind fun t439 => (if t438 < t439 then (none) else (standbylaw55_CurveTight.l0 kj41 (wrap64 (a2)) t436 (t436 == 0) 0 l0_0 a0_1 l1_0 a1_1))))) = some r := by rw [if_pos rfl] at H; exact H
       clear H
       have H := H1
       clear H1
       by_cases c50 : t436 < 0
       ·rw [if_pos c50] at H
        exact absurd H (by simp)
       ·rw [if_neg c50] at H
        have c50b0 : decide (t436 < 0) = false := decide_eq_false c50
        clear c50
        (first | rw [c50b0] | (simp only [i64_w, i32_w]; rw [c50b0]) | skip)
        replace H := Option.bind_eq_some_iff.mp H
        obtain ⟨t438, A510, H⟩ := H
        replace H : ((curve_At.f kj41 l0_0 a0_1 (wrap64 (a2))).bind fun t439 => (if t438 < t439 then (none) else (standbylaw55_CurveTight.l0 kj41 (wrap64 (a2)) t436 (t436 == 0) 0 l0_0 a0_1 l1_0 a1_1))) = some r := H
        have A51 := Aside0.mk A510
        clear A510
        replace H := Option.bind_eq_some_iff.mp H
        obtain ⟨t439, A520, H⟩ := H
        replace H : (if t438 < t439 then (none) else (standbylaw55_CurveTight.l0 kj41 (wrap64 (a2)) t436 (t436 == 0) 0 l0_0 a0_1 l1_0 a1_1)) = some r := H
        have A52 := Aside0.mk A520
        clear A520
        by_cases c53 : t438 < t439
        ·rw [if_pos c53] at H
         exact absurd H (by simp)
        ·rw [if_neg c53] at H
         have c53b0 : decide (t438 < t439) = false := decide_eq_false c53
         clear c53
         have H' := Aside0.mk H
         clear H
         try go_wp2
         have n0_ := Aside0.mk (blk_drew BK426.out)
         have n1_ := Aside0.mk (blk_drew BK427.out)
         have n2_ := Aside0.mk (below_drew1 HB.out)
         clear BK426 BK427 HB
         have BK426 := n0_
         have BK427 := n1_
         have HB := n2_
         clear n0_ n1_ n2_
         refine start_ (n := 13) (S := fun w' => w'.cell? ⟨gb427, 0, none⟩ = some (.slice A1_0 l1_0.length c1_0) ∧ w'.cell? ⟨gb427, 1, none⟩ = some (.int .i64 a1_1) ∧ w'.cell? ⟨gb426, 0, none⟩ = some (.slice A0_0 l0_0.length c0_0) ∧ w'.cell? ⟨gb426, 1, none⟩ = some (.int .i64 a0_1)) (ds := []) #[false, false, false, false, false, false, false, false, false, false, false, false, false] (by kernel_rfl) rfl rfl ⟨(blk_cell BK427.out 0).trans rfl, (blk_cell BK427.out 1).trans rfl, (blk_cell BK426.out 0).trans rfl, (blk_cell BK426.out 1).trans rfl⟩ (fun hHeld => ?_); refine with_tabW standbylaw55_CurveTight.tab6 standbylaw55_CurveTight.bits6 (fun HT_ HW_ => ?_)
         generalize wc.drew = w54 at BK426 BK427 HB hHeld ⊢
         refine pS (i := 0) (N := some 49) #[true, false, false, false, false, false, false, false, false, false, false, false, false] rfl rfl HT_.out ?_
         refine pS (i := 1) (N := some 50) #[true, true, false, false, false, false, false, false, false, false, false, false, false] rfl rfl HT_.out ?_
         refine pS (i := 2) (N := some 51) #[true, true, true, false, false, false, false, false, false, false, false, false, false] rfl rfl HT_.out ?_
         refine pS (i := 4) (N := some 53) #[true, true, true, false, true, false, false, false, false, false, false, false, false] rfl rfl HT_.out ?_
         refine pS (i := 5) (N := some 54) #[true, true, true, false, true, true, false, false, false, false, false, false, false] rfl rfl HT_.out ?_
         refine pS (i := 6) (N := some 55) #[true, true, true, false, true, true, true, false, false, false, false, false, false] rfl rfl HT_.out ?_
         refine pS (i := 9) (N := some 58) #[true, true, true, false, true, true, true, false, false, true, false, false, false] rfl rfl HT_.out ?_
         refine take_ (i := 3) (N := some 52) (v := ?_) (a' := ?_) #[true, true, true, true, true, true, true, false, false, true, false, false, false] rfl rfl (take_ofW HT_.out HW_.out (by kernel_rfl)) (fun _ _ _ h => h) (Or.inl ⟨by rfl, ?_⟩) hHeld ?_ ?_; rotate_left
         ·rintro w' ⟨s0, s1, s2, s3⟩
          go_simp
          with_reducible rfl
         rotate_left
         ·simp only [Act.put, List.setIfInBounds_toArray, List.set_cons_zero, List.set_cons_succ, i64_w, i32_w]
          rfl
         refine take_ (i := 8) (N := some 57) (v := ?_) (a' := ?_) #[true, true, true, true, true, true, true, false, true, true, false, false, false] rfl rfl (take_ofW HT_.out HW_.out (by kernel_rfl)) (fun _ _ _ h => h) (Or.inl ⟨by rfl, ?_⟩) hHeld ?_ ?_; rotate_left
         ·rintro w' ⟨s0, s1, s2, s3⟩
          go_simp
          with_reducible rfl
         rotate_left
         ·simp only [Act.put, List.setIfInBounds_toArray, List.set_cons_zero, List.set_cons_succ, i64_w, i32_w]
          rfl
         refine one_ (i := 7) (N := some 56) #[true, true, true, true, true, true, true, true, true, true, false, false, false] rfl rfl (one_of HT_.out (by kernel_rfl)) (by decide) (fun K hK => ?_)
         refine goes_ Try.func18 (by kernel_rfl) rfl #[.agg #[.slice A1_0 l1_0.length c1_0, .int .i64 a1_1], .int .i64 (wrap64 ((wrap64 (a2)) + t436))] (by rfl) rfl rfl (by (try simp only [List.map_toArray, List.map_cons, List.map_nil]); first | done | rfl | (simp only [List.length_drop, List.length_take]; rfl)) ?_
         with_reducible refine (curve_At.calls kj41 _ _ l1_0 a1_1 (wrap64 ((wrap64 (a2)) + t436)) t438 _ ?side1 ?side2 A51.out).mono ?_
         (case side1 => exact qC HR1_0.out HB.out)
         (case side2 => exact HC1_0.out)
         rintro e w55 ⟨rfl, hb⟩
         refine ⟨_, rfl, ?_⟩
         have n0_ := Aside0.mk (blk_below (qB BK426.out) hb)
         have n1_ := Aside0.mk (blk_below (qB BK427.out) hb)
         have n2_ := Aside0.mk (below_step (qW HB.out) hb)
         clear BK426 BK427 HB
         have BK426 := n0_
         have BK427 := n1_
         have HB := n2_
         clear n0_ n1_ n2_
         (try clear hb); (try clear hb2); (try clear hk); (try clear hi)
         refine hK.out _ _ ⟨(blk_cell BK427.out 0).trans rfl, (blk_cell BK427.out 1).trans rfl, (blk_cell BK426.out 0).trans rfl, (blk_cell BK426.out 1).trans rfl⟩ (fun hHeld => ?_); clear hK K
         refine norm_ (a' := ?_) ?_ ?_; rotate_left
         ·show Act.put _ (some 56) _ = _
          simp only [Act.put, List.setIfInBounds_toArray, List.set_cons_zero, List.set_cons_succ, i64_w, i32_w]
          rfl
         refine one_ (i := 10) (N := some 59) #[true, true, true, true, true, true, true, true, true, true, true, false, false] rfl rfl (one_of HT_.out (by kernel_rfl)) (by decide) (fun K hK => ?_)
         refine goes_ Try.func18 (by kernel_rfl) rfl #[.agg #[.slice A0_0 l0_0.length c0_0, .int .i64 a0_1], .int .i64 (wrap64 (a2))] (by rfl) rfl rfl (by (try simp only [List.map_toArray, List.map_cons, List.map_nil]); first | done | rfl | (simp only [List.length_drop, List.length_take]; rfl)) ?_
         with_reducible refine (curve_At.calls kj41 _ _ l0_0 a0_1 (wrap64 (a2)) t439 _ ?side1 ?side2 A52.out).mono ?_
         (case side1 => exact qC HR0_0.out HB.out)
         (case side2 => exact HC0_0.out)
         rintro e w56 ⟨rfl, hb⟩
         refine ⟨_, rfl, ?_⟩
         have n0_ := Aside0.mk (blk_below (qB BK426.out) hb)
         have n1_ := Aside0.mk (blk_below (qB BK427.out) hb)
         have n2_ := Aside0.mk (below_step (qW HB.out) hb)
         clear BK426 BK427 HB
         have BK426 := n0_
         have BK427 := n1_
         have HB := n2_
         clear n0_ n1_ n2_
         (try clear hb); (try clear hb2); (try clear hk); (try clear hi)
         refine hK.out _ _ ⟨(blk_cell BK427.out 0).trans rfl, (blk_cell BK427.out 1).trans rfl, (blk_cell BK426.out 0).trans rfl, (blk_cell BK426.out 1).trans rfl⟩ (fun hHeld => ?_); clear hK K
         refine norm_ (a' := ?_) ?_ ?_; rotate_left
         ·show Act.put _ (some 59) _ = _
          simp only [Act.put, List.setIfInBounds_toArray, List.set_cons_zero, List.set_cons_succ, i64_w, i32_w]
          rfl
         refine pS (i := 11) (N := some 60) #[true, true, true, true, true, true, true, true, true, true, true, true, false] rfl rfl HT_.out ?_
         refine pS (i := 12) (N := some 61) #[true, true, true, true, true, true, true, true, true, true, true, true, true] rfl rfl HT_.out ?_
         refine done_ (done_of HT_.out (by kernel_rfl)) ?_
         try go_wp2
         go_loopg [10, 64] kj41 (fun kq v10 v64 w' => ∃ (x10_3 : Bool) (x64_3 : Int), v10 = .bool x10_3 ∧ v64 = .int .i64 x64_3 ∧ Aside0 (standbylaw55_CurveTight.l0 kq (wrap64 (a2)) t436 x10_3 x64_3 l0_0 a0_1 l1_0 a1_1 = some r) ∧ Aside0 (kq ≤ kj41) ∧ Aside0 (w'.heap[gb426]? = some (.cells #[(.slice A0_0 l0_0.length c0_0), .int .i64 a0_1] 24 (0, 0))) ∧ Aside0 (w'.heap[gb427]? = some (.cells #[(.slice A1_0 l1_0.length c1_0), .int .i64 a1_1] 24 (0, 0))) ∧ Aside0 (Below w.heap.size w w'))
         case atStart => exact ⟨((t436 == 0)), (0), (by first | rfl | (simp; done) | (simp [*]; done)), (by first | rfl | (simp; done) | (simp [*]; done)), H', ⟨Nat.le_refl _⟩, ⟨by exact qB BK426.out⟩, ⟨by exact qB BK427.out⟩, ⟨by repeat (first | (with_reducible first | exact HB.out | apply below_alloc | apply pw_below_drewN | apply below_drew1 | refine below_set ?_ GE426.out | refine below_set ?_ GE427.out) | exact HB.out)⟩⟩
         case round =>
          clear H'
          try clear c1
          try clear c2
          try clear p2
          try clear c3
          try clear c4
          try clear c5
          try clear p6
          try clear c8
          try clear c10
          try clear c11
          try clear c12
          try clear c12b0
          try clear c12b1
          try clear c14
          try clear c18
          try clear c23
          try clear c24
          try clear c30
          try clear c35
          try clear c38
          try clear c43
          try clear c47
          try clear c47b0
          try clear c47b1
          try clear c49
          try clear c50
          try clear c50b0
          try clear c53
          try clear c53b0
          try clear hcz15_0
          try clear hcz15_1
          try clear hcz17_0
          try clear hcz17_1
          try clear hcz19_0
          try clear hcz19_1
          try clear hcz21_0
          try clear hcz21_1
          try clear hcz24_0
          try clear hcz24_1
          try clear hcz26_0
          try clear hcz26_1
          try clear hcz28_0
          try clear hcz28_1
          try clear hcz31_0
          try clear hcz31_1
          try clear hcz33_0
          try clear hcz33_1
          try clear hcz36_0
          try clear hcz36_1
          try clear hcz44_0
          try clear hcz44_1
          try clear hcz45_0
          try clear hcz45_1
          try clear hfz15_0
          try clear hfz15_1
          try clear hfz17_0
          try clear hfz17_1
          try clear hfz19_0
          try clear hfz19_1
          try clear hfz21_0
          try clear hfz21_1
          try clear hfz24_0
          try clear hfz24_1
          try clear hfz26_0
          try clear hfz26_1
          try clear hfz28_0
          try clear hfz28_1
          try clear hfz31_0
          try clear hfz31_1
          try clear hfz33_0
          try clear hfz33_1
          try clear hfz36_0
          try clear hfz36_1
          try clear hfz44_0
          try clear hfz44_1
          try clear hfz45_0
          try clear hfz45_1
          try clear p2
          try clear p6
          obtain ⟨x10_3, x64_3, rfl, rfl, HA, HK3, BK426, BK427, HB⟩ := hrel
          cases gk with
          | zero => exact absurd HA.out (by simp [standbylaw55_CurveTight.l0])
          | succ k3 =>
           have H := HA.out
           clear HA
           simp only [standbylaw55_CurveTight.l0] at H
           by_cases c57 : x64_3 < 70
           case neg =>
            rw [if_neg c57] at H
            have c57b0 : decide (x64_3 < 70) = false := decide_eq_false c57
            clear c57
            by_cases c65 : x10_3 = true
            ·subst c65
             have H1 : (standbylaw55_CurveTight.j3 k3 (wrap64 (a2)) l0_0 a0_1 l1_0 a1_1) = some r := by rw [if_pos rfl] at H; exact H
             clear H
             have H := H1
             clear H1
             have H' := Aside0.mk H
             clear H
             go_wp2
             go_meet
             case rel => exact ⟨_, H', ⟨by have := HJ3.out; have := HJ41.out; have := HK3.out; first | omega | exact Nat.le_refl _⟩, ⟨by exact qB BK426.out⟩, ⟨by exact qB BK427.out⟩, ⟨by repeat (first | (with_reducible first | exact HB.out | apply below_alloc | apply pw_below_drewN | apply below_drew1 | refine below_set ?_ GE426.out | refine below_set ?_ GE427.out) | exact HB.out)⟩⟩
            ·replace c65 := Bool.eq_false_iff.mpr c65
             subst c65
             have H1 : (none) = some r := by rw [if_neg (show ¬ (false = true) by decide)] at H; exact H
             clear H
             have H := H1
             clear H1
             exact absurd H (by simp)
           rw [if_pos c57] at H
           have c57b0 : decide (x64_3 < 70) = true := decide_eq_true c57
           clear c57
           by_cases c58 : x10_3 = true
           ·subst c58
            have H1 : (standbylaw55_CurveTight.l0 k3 (wrap64 (a2)) t436 true (wrap64 (x64_3 + 1)) l0_0 a0_1 l1_0 a1_1) = some r := by rw [if_pos rfl] at H; exact H
            clear H
            have H := H1
            clear H1
            have H' := Aside0.mk H
            clear H
            try go_wp2
            have n0_ := Aside0.mk (blk_drew BK426.out)
            have n1_ := Aside0.mk (blk_drew BK427.out)
            have n2_ := Aside0.mk (below_drew1 HB.out)
            clear BK426 BK427 HB
            have BK426 := n0_
            have BK427 := n1_
            have HB := n2_
            clear n0_ n1_ n2_
            refine start_ (n := 14) (S := fun w' => True) (ds := []) #[false, false, false, false, false, false, false, false, false, false, false, false, false, false] (by kernel_rfl) rfl rfl trivial (fun hHeld => ?_); refine with_tabW standbylaw55_CurveTight.tab12 standbylaw55_CurveTight.bits12 (fun HT_ HW_ => ?_)
            generalize wr.drew = w59 at BK426 BK427 HB hHeld ⊢
            refine pS (i := 0) (N := some 67) #[true, false, false, false, false, false, false, false, false, false, false, false, false, false] rfl rfl HT_.out ?_
            refine pS (i := 1) (N := some 68) #[true, true, false, false, false, false, false, false, false, false, false, false, false, false] rfl rfl HT_.out ?_
            refine pU (i := 2) (N := some 69) #[true, true, true, false, false, false, false, false, false, false, false, false, false, false] rfl rfl HT_.out ?_
            refine pU (i := 3) (N := some 70) #[true, true, true, true, false, false, false, false, false, false, false, false, false, false] rfl rfl HT_.out ?_
            refine pU (i := 4) (N := some 71) #[true, true, true, true, true, false, false, false, false, false, false, false, false, false] rfl rfl HT_.out ?_
            refine pU (i := 5) (N := some 72) #[true, true, true, true, true, true, false, false, false, false, false, false, false, false] rfl rfl HT_.out ?_
            refine pU (i := 6) (N := some 73) #[true, true, true, true, true, true, true, false, false, false, false, false, false, false] rfl rfl HT_.out ?_
            refine pU (i := 7) (N := some 74) #[true, true, true, true, true, true, true, true, false, false, false, false, false, false] rfl rfl HT_.out ?_
            refine pU (i := 8) (N := some 75) #[true, true, true, true, true, true, true, true, true, false, false, false, false, false] rfl rfl HT_.out ?_
            refine pU (i := 9) (N := some 76) #[true, true, true, true, true, true, true, true, true, true, false, false, false, false] rfl rfl HT_.out ?_
            refine pU (i := 10) (N := some 77) #[true, true, true, true, true, true, true, true, true, true, true, false, false, false] rfl rfl HT_.out ?_
            refine pU (i := 11) (N := some 78) #[true, true, true, true, true, true, true, true, true, true, true, true, false, false] rfl rfl HT_.out ?_
            refine pS (i := 12) (N := some 79) #[true, true, true, true, true, true, true, true, true, true, true, true, true, false] rfl rfl HT_.out ?_
            refine pS (i := 13) (N := some 10) #[true, true, true, true, true, true, true, true, true, true, true, true, true, true] rfl rfl HT_.out ?_
            refine done_ (done_of HT_.out (by kernel_rfl)) ?_
            try go_wp2
            go_roundg k3
            case measure => have := HJ3.out; have := HJ41.out; have := HK3.out; omega
            case rel => exact ⟨(true), (wrap64 (x64_3 + 1)), (by first | rfl | (simp; done) | (simp [*]; done)), (by first | rfl | (simp; done) | (simp [*]; done)), H', ⟨by have := HJ3.out; have := HJ41.out; have := HK3.out; omega⟩, ⟨by exact qB BK426.out⟩, ⟨by exact qB BK427.out⟩, ⟨by repeat (first | (with_reducible first | exact HB.out | apply below_alloc | apply pw_below_drewN | apply below_drew1 | refine below_set ?_ GE426.out | refine below_set ?_ GE427.out) | exact HB.out)⟩⟩
           ·replace c58 := Bool.eq_false_iff.mpr c58
            subst c58
            have H1 : ((curve_At.f k3 l1_0 a1_1 (wrap64 ((wrap64 (x64_3 + t436)) - 1))).bind fun t440 => ((curve_At.f k3 l0_0 a0_1 x64_3).bind fun t441 => (standbylaw55_CurveTight.l0 k3 (wrap64 (a2)) t436 (decide (t440 < t441)) (wrap64 (x64_3 + 1)) l0_0 a0_1 l1_0 a1_1))) = some r := by rw [if_neg (show ¬ (false = true) by decide)] at H; exact H
            clear H
            have H := H1
            clear H1
            replace H := Option.bind_eq_some_iff.mp H
            obtain ⟨t440, A600, H⟩ := H
            replace H : ((curve_At.f k3 l0_0 a0_1 x64_3).bind fun t441 => (standbylaw55_CurveTight.l0 k3 (wrap64 (a2)) t436 (decide (t440 < t441)) (wrap64 (x64_3 + 1)) l0_0 a0_1 l1_0 a1_1)) = some r := H
            have A60 := Aside0.mk A600
            clear A600
            replace H := Option.bind_eq_some_iff.mp H
            obtain ⟨t441, A610, H⟩ := H
            replace H : (standbylaw55_CurveTight.l0 k3 (wrap64 (a2)) t436 (decide (t440 < t441)) (wrap64 (x64_3 + 1)) l0_0 a0_1 l1_0 a1_1) = some r := H
            have A61 := Aside0.mk A610
            clear A610
            have H' := Aside0.mk H
            clear H
            try go_wp2
            have n0_ := Aside0.mk (blk_drew BK426.out)
            have n1_ := Aside0.mk (blk_drew BK427.out)
            have n2_ := Aside0.mk (below_drew1 HB.out)
            clear BK426 BK427 HB
            have BK426 := n0_
            have BK427 := n1_
            have HB := n2_
            clear n0_ n1_ n2_
            refine start_ (n := 14) (S := fun w' => w'.cell? ⟨gb427, 0, none⟩ = some (.slice A1_0 l1_0.length c1_0) ∧ w'.cell? ⟨gb427, 1, none⟩ = some (.int .i64 a1_1) ∧ w'.cell? ⟨gb426, 0, none⟩ = some (.slice A0_0 l0_0.length c0_0) ∧ w'.cell? ⟨gb426, 1, none⟩ = some (.int .i64 a0_1)) (ds := []) #[false, false, false, false, false, false, false, false, false, false, false, false, false, false] (by kernel_rfl) rfl rfl ⟨(blk_cell BK427.out 0).trans rfl, (blk_cell BK427.out 1).trans rfl, (blk_cell BK426.out 0).trans rfl, (blk_cell BK426.out 1).trans rfl⟩ (fun hHeld => ?_); refine with_tabW standbylaw55_CurveTight.tab12 standbylaw55_CurveTight.bits12 (fun HT_ HW_ => ?_)
            generalize wr.drew = w62 at BK426 BK427 HB hHeld ⊢
            refine pS (i := 0) (N := some 67) #[true, false, false, false, false, false, false, false, false, false, false, false, false, false] rfl rfl HT_.out ?_
            refine pS (i := 1) (N := some 68) #[true, true, false, false, false, false, false, false, false, false, false, false, false, false] rfl rfl HT_.out ?_
            refine pS (i := 3) (N := some 70) #[true, true, false, true, false, false, false, false, false, false, false, false, false, false] rfl rfl HT_.out ?_
            refine pS (i := 4) (N := some 71) #[true, true, false, true, true, false, false, false, false, false, false, false, false, false] rfl rfl HT_.out ?_
            refine pS (i := 5) (N := some 72) #[true, true, false, true, true, true, false, false, false, false, false, false, false, false] rfl rfl HT_.out ?_
            refine pS (i := 6) (N := some 73) #[true, true, false, true, true, true, true, false, false, false, false, false, false, false] rfl rfl HT_.out ?_
            refine pS (i := 9) (N := some 76) #[true, true, false, true, true, true, true, false, false, true, false, false, false, false] rfl rfl HT_.out ?_
            refine take_ (i := 2) (N := some 69) (v := ?_) (a' := ?_) #[true, true, true, true, true, true, true, false, false, true, false, false, false, false] rfl rfl (take_ofW HT_.out HW_.out (by kernel_rfl)) (fun _ _ _ h => h) (Or.inl ⟨by rfl, ?_⟩) hHeld ?_ ?_; rotate_left
            ·rintro w' ⟨s0, s1, s2, s3⟩
             go_simp
             with_reducible rfl
            rotate_left
            ·simp only [Act.put, List.setIfInBounds_toArray, List.set_cons_zero, List.set_cons_succ, i64_w, i32_w]
             rfl
            refine take_ (i := 8) (N := some 75) (v := ?_) (a' := ?_) #[true, true, true, true, true, true, true, false, true, true, false, false, false, false] rfl rfl (take_ofW HT_.out HW_.out (by kernel_rfl)) (fun _ _ _ h => h) (Or.inl ⟨by rfl, ?_⟩) hHeld ?_ ?_; rotate_left
            ·rintro w' ⟨s0, s1, s2, s3⟩
             go_simp
             with_reducible rfl
            rotate_left
            ·simp only [Act.put, List.setIfInBounds_toArray, List.set_cons_zero, List.set_cons_succ, i64_w, i32_w]
             rfl
            refine one_ (i := 7) (N := some 74) #[true, true, true, true, true, true, true, true, true, true, false, false, false, false] rfl rfl (one_of HT_.out (by kernel_rfl)) (by decide) (fun K hK => ?_)
            refine goes_ Try.func18 (by kernel_rfl) rfl #[.agg #[.slice A1_0 l1_0.length c1_0, .int .i64 a1_1], .int .i64 (wrap64 ((wrap64 (x64_3 + t436)) - 1))] (by rfl) rfl rfl (by (try simp only [List.map_toArray, List.map_cons, List.map_nil]); first | done | rfl | (simp only [List.length_drop, List.length_take]; rfl)) ?_
            with_reducible refine (curve_At.calls k3 _ _ l1_0 a1_1 (wrap64 ((wrap64 (x64_3 + t436)) - 1)) t440 _ ?side1 ?side2 A60.out).mono ?_
            (case side1 => exact qC HR1_0.out HB.out)
            (case side2 => exact HC1_0.out)
            rintro e w63 ⟨rfl, hb⟩
            refine ⟨_, rfl, ?_⟩
            have n0_ := Aside0.mk (blk_below (qB BK426.out) hb)
            have n1_ := Aside0.mk (blk_below (qB BK427.out) hb)
            have n2_ := Aside0.mk (below_step (qW HB.out) hb)
            clear BK426 BK427 HB
            have BK426 := n0_
            have BK427 := n1_
            have HB := n2_
            clear n0_ n1_ n2_
            (try clear hb); (try clear hb2); (try clear hk); (try clear hi)
            refine hK.out _ _ ⟨(blk_cell BK427.out 0).trans rfl, (blk_cell BK427.out 1).trans rfl, (blk_cell BK426.out 0).trans rfl, (blk_cell BK426.out 1).trans rfl⟩ (fun hHeld => ?_); clear hK K
            refine norm_ (a' := ?_) ?_ ?_; rotate_left
            ·show Act.put _ (some 74) _ = _
             simp only [Act.put, List.setIfInBounds_toArray, List.set_cons_zero, List.set_cons_succ, i64_w, i32_w]
             rfl
            refine one_ (i := 10) (N := some 77) #[true, true, true, true, true, true, true, true, true, true, true, false, false, false] rfl rfl (one_of HT_.out (by kernel_rfl)) (by decide) (fun K hK => ?_)
            refine goes_ Try.func18 (by kernel_rfl) rfl #[.agg #[.slice A0_0 l0_0.length c0_0, .int .i64 a0_1], .int .i64 x64_3] (by rfl) rfl rfl (by (try simp only [List.map_toArray, List.map_cons, List.map_nil]); first | done | rfl | (simp only [List.length_drop, List.length_take]; rfl)) ?_
            with_reducible refine (curve_At.calls k3 _ _ l0_0 a0_1 x64_3 t441 _ ?side1 ?side2 A61.out).mono ?_
            (case side1 => exact qC HR0_0.out HB.out)
            (case side2 => exact HC0_0.out)
            rintro e w64 ⟨rfl, hb⟩
            refine ⟨_, rfl, ?_⟩
            have n0_ := Aside0.mk (blk_below (qB BK426.out) hb)
            have n1_ := Aside0.mk (blk_below (qB BK427.out) hb)
            have n2_ := Aside0.mk (below_step (qW HB.out) hb)
            clear BK426 BK427 HB
            have BK426 := n0_
            have BK427 := n1_
            have HB := n2_
            clear n0_ n1_ n2_
            (try clear hb); (try clear hb2); (try clear hk); (try clear hi)
            refine hK.out _ _ ⟨(blk_cell BK427.out 0).trans rfl, (blk_cell BK427.out 1).trans rfl, (blk_cell BK426.out 0).trans rfl, (blk_cell BK426.out 1).trans rfl⟩ (fun hHeld => ?_); clear hK K
            refine norm_ (a' := ?_) ?_ ?_; rotate_left
            ·show Act.put _ (some 77) _ = _
             simp only [Act.put, List.setIfInBounds_toArray, List.set_cons_zero, List.set_cons_succ, i64_w, i32_w]
             rfl
            refine pS (i := 11) (N := some 78) #[true, true, true, true, true, true, true, true, true, true, true, true, false, false] rfl rfl HT_.out ?_
            refine pS (i := 12) (N := some 79) #[true, true, true, true, true, true, true, true, true, true, true, true, true, false] rfl rfl HT_.out ?_
            refine pS (i := 13) (N := some 10) #[true, true, true, true, true, true, true, true, true, true, true, true, true, true] rfl rfl HT_.out ?_
            refine done_ (done_of HT_.out (by kernel_rfl)) ?_
            try go_wp2
            go_roundg k3
            case measure => have := HJ3.out; have := HJ41.out; have := HK3.out; omega
            case rel => exact ⟨(decide (t440 < t441)), (wrap64 (x64_3 + 1)), (by first | rfl | (simp; done) | (simp [*]; done)), (by first | rfl | (simp; done) | (simp [*]; done)), H', ⟨by have := HJ3.out; have := HJ41.out; have := HK3.out; omega⟩, ⟨by exact qB BK426.out⟩, ⟨by exact qB BK427.out⟩, ⟨by repeat (first | (with_reducible first | exact HB.out | apply below_alloc | apply pw_below_drewN | apply below_drew1 | refine below_set ?_ GE426.out | refine below_set ?_ GE427.out) | exact HB.out)⟩⟩
      case rest =>
       clear HC48
       try clear c1
       try clear c2
       try clear p2
       try clear c3
       try clear c4
       try clear c5
       try clear c6
       try clear p6
       try clear c8
       try clear c10
       try clear c11
       try clear c12
       try clear c12b0
       try clear c12b1
       try clear c14
       try clear c18
       try clear c23
       try clear c24
       try clear c30
       try clear c35
       try clear c38
       try clear c43
       try clear c47
       try clear c47b0
       try clear c47b1
       try clear c49
       try clear c50
       try clear c50b0
       try clear c53
       try clear c53b0
       try clear c57
       try clear c57b0
       try clear c58
       try clear p64
       try clear c65
       try clear hcz15_0
       try clear hcz15_1
       try clear hcz17_0
       try clear hcz17_1
       try clear hcz19_0
       try clear hcz19_1
       try clear hcz21_0
       try clear hcz21_1
       try clear hcz24_0
       try clear hcz24_1
       try clear hcz26_0
       try clear hcz26_1
       try clear hcz28_0
       try clear hcz28_1
       try clear hcz31_0
       try clear hcz31_1
       try clear hcz33_0
       try clear hcz33_1
       try clear hcz36_0
       try clear hcz36_1
       try clear hcz44_0
       try clear hcz44_1
       try clear hcz45_0
       try clear hcz45_1
       try clear hfz15_0
       try clear hfz15_1
       try clear hfz17_0
       try clear hfz17_1
       try clear hfz19_0
       try clear hfz19_1
       try clear hfz21_0
       try clear hfz21_1
       try clear hfz24_0
       try clear hfz24_1
       try clear hfz26_0
       try clear hfz26_1
       try clear hfz28_0
       try clear hfz28_1
       try clear hfz31_0
       try clear hfz31_1
       try clear hfz33_0
       try clear hfz33_1
       try clear hfz36_0
       try clear hfz36_1
       try clear hfz44_0
       try clear hfz44_1
       try clear hfz45_0
       try clear hfz45_1
       try clear p2
       try clear p6
       obtain ⟨kq, HA, HJ47, BK426, BK427, HB⟩ := hcut
       cases kq with
       | zero => exact absurd HA.out (by simp [standbylaw55_CurveTight.j3])
       | succ kj47 =>
        have H := HA.out
        clear HA
        simp only [standbylaw55_CurveTight.j3] at H
        replace H := Option.bind_eq_some_iff.mp H
        obtain ⟨⟨t442, t443⟩, A660, H⟩ := H
        replace H : (if t443 = 0 then (if t442 < 0 then (none) else ((curve_At.f kj47 l0_0 a0_1 (wrap64 (a2))).bind fun t444 => ((curve_At.f kj47 l1_0 a1_1 (wrap64 (a2))).bind fun t445 => (if (wrap64 (t444 - t445)) > t442 then (none) else (standbylaw55_CurveTight.l1 kj47 t442 (t442 == 0) 0 l0_0 a0_1 l1_0 a1_1))))) else ((standbylaw55_awake.f kj47).bind fun t449 => (some t449))) = some r := H
        have A66 := Aside0.mk A660
        clear A660
        by_cases c67 : t443 = 0
        case neg =>
         rw [if_neg c67] at H
         have c67b0 : (t443 == 0) = false := beq_eq_false_iff_ne.mpr c67
         have c67b1 : (t443 != 0) = true := bne_iff_ne.mpr c67
         replace H := Option.bind_eq_some_iff.mp H
         obtain ⟨t449, A900, H⟩ := H
         replace H : (some t449) = some r := H
         have A90 := Aside0.mk A900
         clear A900
         obtain rfl := Option.some.inj H
         have hnb91 := NB426_427.out
         have hnc91 := NB427_426.out
         have hcz92_0 : wc.cell? ⟨gb426, 0, none⟩ = some (.slice A0_0 l0_0.length c0_0) := (blk_cell BK426.out 0).trans rfl
         have hcz92_1 : wc.cell? ⟨gb426, 1, none⟩ = some (.int .i64 a0_1) := (blk_cell BK426.out 1).trans rfl
         have hfz92_0 := blk_frozen BK426.out 0
         have hfz92_1 := blk_frozen BK426.out 1
         have hcz93_0 : wc.cell? ⟨gb427, 0, none⟩ = some (.slice A1_0 l1_0.length c1_0) := (blk_cell BK427.out 0).trans rfl
         have hcz93_1 : wc.cell? ⟨gb427, 1, none⟩ = some (.int .i64 a1_1) := (blk_cell BK427.out 1).trans rfl
         have hfz93_0 := blk_frozen BK427.out 0
         have hfz93_1 := blk_frozen BK427.out 1
         go_wp2_with (first | ((with_reducible refine gate_callee (f := 26) rfl ?_); refine goesL_ (some 86) rfl rfl Try.func26 (by kernel_rfl) rfl #[.agg #[.slice A0_0 l0_0.length c0_0, .int .i64 a0_1], .agg #[.slice A1_0 l1_0.length c1_0, .int .i64 a1_1]] rfl (by (try simp only [List.map_toArray, List.map_cons, List.map_nil]); first | done | rfl | (simp only [List.length_drop, List.length_take]; rfl)) ?_; (with_reducible refine (curve_Backlog.calls kj47 _ _ l0_0 a0_1 _ _ l1_0 a1_1 t442 t443 _ ?side1 ?side2 ?side3 ?side4 A66.out).mono ?_); (case side1 => exact qC HR0_0.out HB.out); (case side2 => exact HC0_0.out); (case side3 => exact qC HR1_0.out HB.out); (case side4 => exact HC1_0.out); rintro e w94 ⟨rfl, hb⟩; refine ⟨_, rfl, ?_⟩; have n0_ := Aside0.mk (blk_below (qB BK426.out) hb); have n1_ := Aside0.mk (blk_below (qB BK427.out) hb); have n2_ := Aside0.mk (below_step (qW HB.out) hb); clear BK426 BK427 HB; have BK426 := n0_; have BK427 := n1_; have HB := n2_; clear n0_ n1_ n2_; (try clear hb); (try clear hb2); (try clear hk); (try clear hi)) | ((with_reducible refine gate_callee (f := 11) rfl ?_); refine goesL_ (some 124) rfl rfl Try.func11 (by kernel_rfl) rfl #[] rfl (by (try simp only [List.map_toArray, List.map_cons, List.map_nil]); first | done | rfl | (simp only [List.length_drop, List.length_take]; rfl)) ?_; (with_reducible refine (standbylaw55_awake.calls kj47  t449 _ A90.out).mono ?_); rintro e w95 ⟨rfl, hb⟩; refine ⟨_, rfl, ?_⟩; have n0_ := Aside0.mk (blk_below (qB BK426.out) hb); have n1_ := Aside0.mk (blk_below (qB BK427.out) hb); have n2_ := Aside0.mk (below_step (qW HB.out) hb); clear BK426 BK427 HB; have BK426 := n0_; have BK427 := n1_; have HB := n2_; clear n0_ n1_ n2_; (try clear hb); (try clear hb2); (try clear hk); (try clear hi)))
         go_ret
         exact ⟨by first | rfl | (simp [errW_none, errW_some] <;> rfl) | (simp [*, errW_none, errW_some] <;> rfl), by repeat (first | (with_reducible first | exact HB.out | apply below_alloc | apply pw_below_drewN | apply below_drew1 | refine below_set ?_ GE426.out | refine below_set ?_ GE427.out) | exact HB.out)⟩

        rw [if_pos c67] at H
        have c67b0 : (t443 == 0) = true := beq_iff_eq.mpr c67
        have c67b1 : (t443 != 0) = false := bne_eq_false_iff_eq.mpr c67
        clear c67
        by_cases c68 : t442 < 0
        ·rw [if_pos c68] at H
         exact absurd H (by simp)
        ·rw [if_neg c68] at H
         have c68b0 : decide (t442 < 0) = false := decide_eq_false c68
         clear c68
         replace H := Option.bind_eq_some_iff.mp H
         obtain ⟨t444, A690, H⟩ := H
         replace H : ((curve_At.f kj47 l1_0 a1_1 (wrap64 (a2))).bind fun t445 => (if (wrap64 (t444 - t445)) > t442 then (none) else (standbylaw55_CurveTight.l1 kj47 t442 (t442 == 0) 0 l0_0 a0_1 l1_0 a1_1))) = some r := H
         have A69 := Aside0.mk A690
         clear A690
         replace H := Option.bind_eq_some_iff.mp H
         obtain ⟨t445, A700, H⟩ := H
         replace H : (if (wrap64 (t444 - t445)) > t442 then (none) else (standbylaw55_CurveTight.l1 kj47 t442 (t442 == 0) 0 l0_0 a0_1 l1_0 a1_1)) = some r := H
         have A70 := Aside0.mk A700
         clear A700
         by_cases c71 : (wrap64 (t444 - t445)) > t442
         ·rw [if_pos c71] at H
          exact absurd H (by simp)
         ·rw [if_neg c71] at H
          have c71b0 : decide (t442 < (wrap64 (t444 - t445))) = false := decide_eq_false c71
          clear c71
          have H' := Aside0.mk H
          clear H
          have hnb72 := NB426_427.out
          have hnc72 := NB427_426.out
          have hcz73_0 : wc.cell? ⟨gb426, 0, none⟩ = some (.slice A0_0 l0_0.length c0_0) := (blk_cell BK426.out 0).trans rfl
          have hcz73_1 : wc.cell? ⟨gb426, 1, none⟩ = some (.int .i64 a0_1) := (blk_cell BK426.out 1).trans rfl
          have hfz73_0 := blk_frozen BK426.out 0
          have hfz73_1 := blk_frozen BK426.out 1
          have hcz74_0 : wc.cell? ⟨gb427, 0, none⟩ = some (.slice A1_0 l1_0.length c1_0) := (blk_cell BK427.out 0).trans rfl
          have hcz74_1 : wc.cell? ⟨gb427, 1, none⟩ = some (.int .i64 a1_1) := (blk_cell BK427.out 1).trans rfl
          have hfz74_0 := blk_frozen BK427.out 0
          have hfz74_1 := blk_frozen BK427.out 1
          try go_wp2_with (first | ((with_reducible refine gate_callee (f := 26) rfl ?_); refine goesL_ (some 86) rfl rfl Try.func26 (by kernel_rfl) rfl #[.agg #[.slice A0_0 l0_0.length c0_0, .int .i64 a0_1], .agg #[.slice A1_0 l1_0.length c1_0, .int .i64 a1_1]] rfl (by (try simp only [List.map_toArray, List.map_cons, List.map_nil]); first | done | rfl | (simp only [List.length_drop, List.length_take]; rfl)) ?_; (with_reducible refine (curve_Backlog.calls kj47 _ _ l0_0 a0_1 _ _ l1_0 a1_1 t442 t443 _ ?side1 ?side2 ?side3 ?side4 A66.out).mono ?_); (case side1 => exact qC HR0_0.out HB.out); (case side2 => exact HC0_0.out); (case side3 => exact qC HR1_0.out HB.out); (case side4 => exact HC1_0.out); rintro e w75 ⟨rfl, hb⟩; refine ⟨_, rfl, ?_⟩; have n0_ := Aside0.mk (blk_below (qB BK426.out) hb); have n1_ := Aside0.mk (blk_below (qB BK427.out) hb); have n2_ := Aside0.mk (below_step (qW HB.out) hb); clear BK426 BK427 HB; have BK426 := n0_; have BK427 := n1_; have HB := n2_; clear n0_ n1_ n2_; (try clear hb); (try clear hb2); (try clear hk); (try clear hi)))
          have n0_ := Aside0.mk (blk_drew BK426.out)
          have n1_ := Aside0.mk (blk_drew BK427.out)
          have n2_ := Aside0.mk (below_drew1 HB.out)
          clear BK426 BK427 HB
          have BK426 := n0_
          have BK427 := n1_
          have HB := n2_
          clear n0_ n1_ n2_
          refine start_ (n := 13) (S := fun w' => w'.cell? ⟨gb426, 0, none⟩ = some (.slice A0_0 l0_0.length c0_0) ∧ w'.cell? ⟨gb426, 1, none⟩ = some (.int .i64 a0_1) ∧ w'.cell? ⟨gb427, 0, none⟩ = some (.slice A1_0 l1_0.length c1_0) ∧ w'.cell? ⟨gb427, 1, none⟩ = some (.int .i64 a1_1)) (ds := []) #[false, false, false, false, false, false, false, false, false, false, false, false, false] (by kernel_rfl) rfl rfl ⟨(blk_cell BK426.out 0).trans rfl, (blk_cell BK426.out 1).trans rfl, (blk_cell BK427.out 0).trans rfl, (blk_cell BK427.out 1).trans rfl⟩ (fun hHeld => ?_); refine with_tabW standbylaw55_CurveTight.tab18 standbylaw55_CurveTight.bits18 (fun HT_ HW_ => ?_)
          generalize w75.drew = w76 at BK426 BK427 HB hHeld ⊢
          refine pS (i := 0) (N := some 91) #[true, false, false, false, false, false, false, false, false, false, false, false, false] rfl rfl HT_.out ?_
          refine pS (i := 1) (N := some 92) #[true, true, false, false, false, false, false, false, false, false, false, false, false] rfl rfl HT_.out ?_
          refine pS (i := 2) (N := some 93) #[true, true, true, false, false, false, false, false, false, false, false, false, false] rfl rfl HT_.out ?_
          refine pS (i := 4) (N := some 95) #[true, true, true, false, true, false, false, false, false, false, false, false, false] rfl rfl HT_.out ?_
          refine pS (i := 7) (N := some 98) #[true, true, true, false, true, false, false, true, false, false, false, false, false] rfl rfl HT_.out ?_
          refine pS (i := 10) (N := some 101) #[true, true, true, false, true, false, false, true, false, false, true, false, false] rfl rfl HT_.out ?_
          refine take_ (i := 3) (N := some 94) (v := ?_) (a' := ?_) #[true, true, true, true, true, false, false, true, false, false, true, false, false] rfl rfl (take_ofW HT_.out HW_.out (by kernel_rfl)) (fun _ _ _ h => h) (Or.inl ⟨by rfl, ?_⟩) hHeld ?_ ?_; rotate_left
          ·rintro w' ⟨s0, s1, s2, s3⟩
           go_simp
           with_reducible rfl
          rotate_left
          ·simp only [Act.put, List.setIfInBounds_toArray, List.set_cons_zero, List.set_cons_succ, i64_w, i32_w]
           rfl
          refine take_ (i := 6) (N := some 97) (v := ?_) (a' := ?_) #[true, true, true, true, true, false, true, true, false, false, true, false, false] rfl rfl (take_ofW HT_.out HW_.out (by kernel_rfl)) (fun _ _ _ h => h) (Or.inl ⟨by rfl, ?_⟩) hHeld ?_ ?_; rotate_left
          ·rintro w' ⟨s0, s1, s2, s3⟩
           go_simp
           with_reducible rfl
          rotate_left
          ·simp only [Act.put, List.setIfInBounds_toArray, List.set_cons_zero, List.set_cons_succ, i64_w, i32_w]
           rfl
          refine one_ (i := 5) (N := some 96) #[true, true, true, true, true, true, true, true, false, false, true, false, false] rfl rfl (one_of HT_.out (by kernel_rfl)) (by decide) (fun K hK => ?_)
          refine goes_ Try.func18 (by kernel_rfl) rfl #[.agg #[.slice A0_0 l0_0.length c0_0, .int .i64 a0_1], .int .i64 (wrap64 (a2))] (by rfl) rfl rfl (by (try simp only [List.map_toArray, List.map_cons, List.map_nil]); first | done | rfl | (simp only [List.length_drop, List.length_take]; rfl)) ?_
          with_reducible refine (curve_At.calls kj47 _ _ l0_0 a0_1 (wrap64 (a2)) t444 _ ?side1 ?side2 A69.out).mono ?_
          (case side1 => exact qC HR0_0.out HB.out)
          (case side2 => exact HC0_0.out)
          rintro e w77 ⟨rfl, hb⟩
          refine ⟨_, rfl, ?_⟩
          have n0_ := Aside0.mk (blk_below (qB BK426.out) hb)
          have n1_ := Aside0.mk (blk_below (qB BK427.out) hb)
          have n2_ := Aside0.mk (below_step (qW HB.out) hb)
          clear BK426 BK427 HB
          have BK426 := n0_
          have BK427 := n1_
          have HB := n2_
          clear n0_ n1_ n2_
          (try clear hb); (try clear hb2); (try clear hk); (try clear hi)
          refine hK.out _ _ ⟨(blk_cell BK426.out 0).trans rfl, (blk_cell BK426.out 1).trans rfl, (blk_cell BK427.out 0).trans rfl, (blk_cell BK427.out 1).trans rfl⟩ (fun hHeld => ?_); clear hK K
          refine norm_ (a' := ?_) ?_ ?_; rotate_left
          ·show Act.put _ (some 96) _ = _
           simp only [Act.put, List.setIfInBounds_toArray, List.set_cons_zero, List.set_cons_succ, i64_w, i32_w]
           rfl
          refine one_ (i := 8) (N := some 99) #[true, true, true, true, true, true, true, true, true, false, true, false, false] rfl rfl (one_of HT_.out (by kernel_rfl)) (by decide) (fun K hK => ?_)
          refine goes_ Try.func18 (by kernel_rfl) rfl #[.agg #[.slice A1_0 l1_0.length c1_0, .int .i64 a1_1], .int .i64 (wrap64 (a2))] (by rfl) rfl rfl (by (try simp only [List.map_toArray, List.map_cons, List.map_nil]); first | done | rfl | (simp only [List.length_drop, List.length_take]; rfl)) ?_
          with_reducible refine (curve_At.calls kj47 _ _ l1_0 a1_1 (wrap64 (a2)) t445 _ ?side1 ?side2 A70.out).mono ?_
          (case side1 => exact qC HR1_0.out HB.out)
          (case side2 => exact HC1_0.out)
          rintro e w78 ⟨rfl, hb⟩
          refine ⟨_, rfl, ?_⟩
          have n0_ := Aside0.mk (blk_below (qB BK426.out) hb)
          have n1_ := Aside0.mk (blk_below (qB BK427.out) hb)
          have n2_ := Aside0.mk (below_step (qW HB.out) hb)
          clear BK426 BK427 HB
          have BK426 := n0_
          have BK427 := n1_
          have HB := n2_
          clear n0_ n1_ n2_
          (try clear hb); (try clear hb2); (try clear hk); (try clear hi)
          refine hK.out _ _ ⟨(blk_cell BK426.out 0).trans rfl, (blk_cell BK426.out 1).trans rfl, (blk_cell BK427.out 0).trans rfl, (blk_cell BK427.out 1).trans rfl⟩ (fun hHeld => ?_); clear hK K
          refine norm_ (a' := ?_) ?_ ?_; rotate_left
          ·show Act.put _ (some 99) _ = _
           simp only [Act.put, List.setIfInBounds_toArray, List.set_cons_zero, List.set_cons_succ, i64_w, i32_w]
           rfl
          refine pS (i := 9) (N := some 100) #[true, true, true, true, true, true, true, true, true, true, true, false, false] rfl rfl HT_.out ?_
          refine pS (i := 11) (N := some 102) #[true, true, true, true, true, true, true, true, true, true, true, true, false] rfl rfl HT_.out ?_
          refine pS (i := 12) (N := some 103) #[true, true, true, true, true, true, true, true, true, true, true, true, true] rfl rfl HT_.out ?_
          refine done_ (done_of HT_.out (by kernel_rfl)) ?_
          try go_wp2
          go_loopg [14, 106] kj47 (fun kq v14 v106 w' => ∃ (x14_4 : Bool) (x106_4 : Int), v14 = .bool x14_4 ∧ v106 = .int .i64 x106_4 ∧ Aside0 (standbylaw55_CurveTight.l1 kq t442 x14_4 x106_4 l0_0 a0_1 l1_0 a1_1 = some r) ∧ Aside0 (kq ≤ kj47) ∧ Aside0 (w'.heap[gb426]? = some (.cells #[(.slice A0_0 l0_0.length c0_0), .int .i64 a0_1] 24 (0, 0))) ∧ Aside0 (w'.heap[gb427]? = some (.cells #[(.slice A1_0 l1_0.length c1_0), .int .i64 a1_1] 24 (0, 0))) ∧ Aside0 (Below w.heap.size w w'))
          case atStart => exact ⟨((t442 == 0)), (0), (by first | rfl | (simp; done) | (simp [*]; done)), (by first | rfl | (simp; done) | (simp [*]; done)), H', ⟨Nat.le_refl _⟩, ⟨by exact qB BK426.out⟩, ⟨by exact qB BK427.out⟩, ⟨by repeat (first | (with_reducible first | exact HB.out | apply below_alloc | apply pw_below_drewN | apply below_drew1 | refine below_set ?_ GE426.out | refine below_set ?_ GE427.out) | exact HB.out)⟩⟩
          case round =>
           clear H'
           try clear c1
           try clear c2
           try clear p2
           try clear c3
           try clear c4
           try clear c5
           try clear c6
           try clear p6
           try clear c7
           try clear c8
           try clear c10
           try clear c11
           try clear c12
           try clear c12b0
           try clear c12b1
           try clear c14
           try clear c18
           try clear c23
           try clear c24
           try clear c26
           try clear c30
           try clear c35
           try clear c38
           try clear c43
           try clear c47
           try clear c47b0
           try clear c47b1
           try clear c49
           try clear c50
           try clear c50b0
           try clear c53
           try clear c53b0
           try clear c57
           try clear c57b0
           try clear c58
           try clear p64
           try clear c65
           try clear c67
           try clear c67b0
           try clear c67b1
           try clear c68
           try clear c68b0
           try clear c71
           try clear c71b0
           try clear c72
           try clear hcz15_0
           try clear hcz15_1
           try clear hcz17_0
           try clear hcz17_1
           try clear hcz19_0
           try clear hcz19_1
           try clear hcz21_0
           try clear hcz21_1
           try clear hcz24_0
           try clear hcz24_1
           try clear hcz26_0
           try clear hcz26_1
           try clear hcz28_0
           try clear hcz28_1
           try clear hcz31_0
           try clear hcz31_1
           try clear hcz33_0
           try clear hcz33_1
           try clear hcz36_0
           try clear hcz36_1
           try clear hcz44_0
           try clear hcz44_1
           try clear hcz45_0
           try clear hcz45_1
           try clear hcz73_0
           try clear hcz73_1
           try clear hcz74_0
           try clear hcz74_1
           try clear hfz15_0
           try clear hfz15_1
           try clear hfz17_0
           try clear hfz17_1
           try clear hfz19_0
           try clear hfz19_1
           try clear hfz21_0
           try clear hfz21_1
           try clear hfz24_0
           try clear hfz24_1
           try clear hfz26_0
           try clear hfz26_1
           try clear hfz28_0
           try clear hfz28_1
           try clear hfz31_0
           try clear hfz31_1
           try clear hfz33_0
           try clear hfz33_1
           try clear hfz36_0
           try clear hfz36_1
           try clear hfz44_0
           try clear hfz44_1
           try clear hfz45_0
           try clear hfz45_1
           try clear hfz73_0
           try clear hfz73_1
           try clear hfz74_0
           try clear hfz74_1
           try clear p2
           try clear p6
           try clear p64
           obtain ⟨x14_4, x106_4, rfl, rfl, HA, HK4, BK426, BK427, HB⟩ := hrel
           cases gk with
           | zero => exact absurd HA.out (by simp [standbylaw55_CurveTight.l1])
           | succ k4 =>
            have H := HA.out
            clear HA
            simp only [standbylaw55_CurveTight.l1] at H
            by_cases c79 : x106_4 < 70
            case neg =>
             rw [if_neg c79] at H
             have c79b0 : decide (x106_4 < 70) = false := decide_eq_false c79
             clear c79
             by_cases c87 : x14_4 = true
             case neg =>
              replace c87 := Bool.eq_false_iff.mpr c87
              subst c87
              have H1 : (none) = some r := by rw [if_neg (show ¬ (false = true) by decide)] at H; exact H
              clear H
              have H := H1
              clear H1
              exact absurd H (by simp)
             subst c87
             have H1 : ((standbylaw55_awake.f k4).bind fun t448 => (some t448)) = some r := by rw [if_pos rfl] at H; exact H
             clear H
             have H := H1
             clear H1
             replace H := Option.bind_eq_some_iff.mp H
             obtain ⟨t448, A880, H⟩ := H
             replace H : (some t448) = some r := H
             have A88 := Aside0.mk A880
             clear A880
             obtain rfl := Option.some.inj H
             go_wp2_with (first | ((with_reducible refine gate_callee (f := 11) rfl ?_); refine goesL_ (some 124) rfl rfl Try.func11 (by kernel_rfl) rfl #[] rfl (by (try simp only [List.map_toArray, List.map_cons, List.map_nil]); first | done | rfl | (simp only [List.length_drop, List.length_take]; rfl)) ?_; (with_reducible refine (standbylaw55_awake.calls k4  t448 _ A88.out).mono ?_); rintro e w89 ⟨rfl, hb⟩; refine ⟨_, rfl, ?_⟩; have n0_ := Aside0.mk (blk_below (qB BK426.out) hb); have n1_ := Aside0.mk (blk_below (qB BK427.out) hb); have n2_ := Aside0.mk (below_step (qW HB.out) hb); clear BK426 BK427 HB; have BK426 := n0_; have BK427 := n1_; have HB := n2_; clear n0_ n1_ n2_; (try clear hb); (try clear hb2); (try clear hk); (try clear hi)))
             go_ret
             exact ⟨by first | rfl | (simp [errW_none, errW_some] <;> rfl) | (simp [*, errW_none, errW_some] <;> rfl), by repeat (first | (with_reducible first | exact HB.out | apply below_alloc | apply pw_below_drewN | apply below_drew1 | refine below_set ?_ GE426.out | refine below_set ?_ GE427.out) | exact HB.out)⟩
            rw [if_pos c79] at H
            have c79b0 : decide (x106_4 < 70) = true := decide_eq_true c79
            clear c79
            by_cases c80 : x14_4 = true
            ·subst c80
             have H1 : (standbylaw55_CurveTight.l1 k4 t442 true (wrap64 (x106_4 + 1)) l0_0 a0_1 l1_0 a1_1) = some r := by rw [if_pos rfl] at H; exact H
             clear H
             have H := H1
             clear H1
             have H' := Aside0.mk H
             clear H
             try go_wp2
             have n0_ := Aside0.mk (blk_drew BK426.out)
             have n1_ := Aside0.mk (blk_drew BK427.out)
             have n2_ := Aside0.mk (below_drew1 HB.out)
             clear BK426 BK427 HB
             have BK426 := n0_
             have BK427 := n1_
             have HB := n2_
             clear n0_ n1_ n2_
             refine start_ (n := 13) (S := fun w' => True) (ds := []) #[false, false, false, false, false, false, false, false, false, false, false, false, false] (by kernel_rfl) rfl rfl trivial (fun hHeld => ?_); refine with_tabW standbylaw55_CurveTight.tab24 standbylaw55_CurveTight.bits24 (fun HT_ HW_ => ?_)
             generalize wr.drew = w81 at BK426 BK427 HB hHeld ⊢
             refine pS (i := 0) (N := some 109) #[true, false, false, false, false, false, false, false, false, false, false, false, false] rfl rfl HT_.out ?_
             refine pS (i := 1) (N := some 110) #[true, true, false, false, false, false, false, false, false, false, false, false, false] rfl rfl HT_.out ?_
             refine pU (i := 2) (N := some 111) #[true, true, true, false, false, false, false, false, false, false, false, false, false] rfl rfl HT_.out ?_
             refine pU (i := 3) (N := some 112) #[true, true, true, true, false, false, false, false, false, false, false, false, false] rfl rfl HT_.out ?_
             refine pU (i := 4) (N := some 113) #[true, true, true, true, true, false, false, false, false, false, false, false, false] rfl rfl HT_.out ?_
             refine pU (i := 5) (N := some 114) #[true, true, true, true, true, true, false, false, false, false, false, false, false] rfl rfl HT_.out ?_
             refine pU (i := 6) (N := some 115) #[true, true, true, true, true, true, true, false, false, false, false, false, false] rfl rfl HT_.out ?_
             refine pU (i := 7) (N := some 116) #[true, true, true, true, true, true, true, true, false, false, false, false, false] rfl rfl HT_.out ?_
             refine pU (i := 8) (N := some 117) #[true, true, true, true, true, true, true, true, true, false, false, false, false] rfl rfl HT_.out ?_
             refine pU (i := 9) (N := some 118) #[true, true, true, true, true, true, true, true, true, true, false, false, false] rfl rfl HT_.out ?_
             refine pU (i := 10) (N := some 119) #[true, true, true, true, true, true, true, true, true, true, true, false, false] rfl rfl HT_.out ?_
             refine pS (i := 11) (N := some 120) #[true, true, true, true, true, true, true, true, true, true, true, true, false] rfl rfl HT_.out ?_
             refine pS (i := 12) (N := some 14) #[true, true, true, true, true, true, true, true, true, true, true, true, true] rfl rfl HT_.out ?_
             refine done_ (done_of HT_.out (by kernel_rfl)) ?_
             try go_wp2
             go_roundg k4
             case measure => have := HJ3.out; have := HJ41.out; have := HJ47.out; have := HK4.out; omega
             case rel => exact ⟨(true), (wrap64 (x106_4 + 1)), (by first | rfl | (simp; done) | (simp [*]; done)), (by first | rfl | (simp; done) | (simp [*]; done)), H', ⟨by have := HJ3.out; have := HJ41.out; have := HJ47.out; have := HK4.out; omega⟩, ⟨by exact qB BK426.out⟩, ⟨by exact qB BK427.out⟩, ⟨by repeat (first | (with_reducible first | exact HB.out | apply below_alloc | apply pw_below_drewN | apply below_drew1 | refine below_set ?_ GE426.out | refine below_set ?_ GE427.out) | exact HB.out)⟩⟩
            ·replace c80 := Bool.eq_false_iff.mpr c80
             subst c80
             have H1 : ((curve_At.f k4 l0_0 a0_1 x106_4).bind fun t446 => ((curve_At.f k4 l1_0 a1_1 x106_4).bind fun t447 => (standbylaw55_CurveTight.l1 k4 t442 ((wrap64 (t446 - t447)) == t442) (wrap64 (x106_4 + 1)) l0_0 a0_1 l1_0 a1_1))) = some r := by rw [if_neg (show ¬ (false = true) by decide)] at H; exact H
             clear H
             have H := H1
             clear H1
             replace H := Option.bind_eq_some_iff.mp H
             obtain ⟨t446, A820, H⟩ := H
             replace H : ((curve_At.f k4 l1_0 a1_1 x106_4).bind fun t447 => (standbylaw55_CurveTight.l1 k4 t442 ((wrap64 (t446 - t447)) == t442) (wrap64 (x106_4 + 1)) l0_0 a0_1 l1_0 a1_1)) = some r := H
             have A82 := Aside0.mk A820
             clear A820
             replace H := Option.bind_eq_some_iff.mp H
             obtain ⟨t447, A830, H⟩ := H
             replace H : (standbylaw55_CurveTight.l1 k4 t442 ((wrap64 (t446 - t447)) == t442) (wrap64 (x106_4 + 1)) l0_0 a0_1 l1_0 a1_1) = some r := H
             have A83 := Aside0.mk A830
             clear A830
             have H' := Aside0.mk H
             clear H
             try go_wp2
             have n0_ := Aside0.mk (blk_drew BK426.out)
             have n1_ := Aside0.mk (blk_drew BK427.out)
             have n2_ := Aside0.mk (below_drew1 HB.out)
             clear BK426 BK427 HB
             have BK426 := n0_
             have BK427 := n1_
             have HB := n2_
             clear n0_ n1_ n2_
             refine start_ (n := 13) (S := fun w' => w'.cell? ⟨gb426, 0, none⟩ = some (.slice A0_0 l0_0.length c0_0) ∧ w'.cell? ⟨gb426, 1, none⟩ = some (.int .i64 a0_1) ∧ w'.cell? ⟨gb427, 0, none⟩ = some (.slice A1_0 l1_0.length c1_0) ∧ w'.cell? ⟨gb427, 1, none⟩ = some (.int .i64 a1_1)) (ds := []) #[false, false, false, false, false, false, false, false, false, false, false, false, false] (by kernel_rfl) rfl rfl ⟨(blk_cell BK426.out 0).trans rfl, (blk_cell BK426.out 1).trans rfl, (blk_cell BK427.out 0).trans rfl, (blk_cell BK427.out 1).trans rfl⟩ (fun hHeld => ?_); refine with_tabW standbylaw55_CurveTight.tab24 standbylaw55_CurveTight.bits24 (fun HT_ HW_ => ?_)
             generalize wr.drew = w84 at BK426 BK427 HB hHeld ⊢
             refine pS (i := 0) (N := some 109) #[true, false, false, false, false, false, false, false, false, false, false, false, false] rfl rfl HT_.out ?_
             refine pS (i := 1) (N := some 110) #[true, true, false, false, false, false, false, false, false, false, false, false, false] rfl rfl HT_.out ?_
             refine pS (i := 3) (N := some 112) #[true, true, false, true, false, false, false, false, false, false, false, false, false] rfl rfl HT_.out ?_
             refine pS (i := 6) (N := some 115) #[true, true, false, true, false, false, true, false, false, false, false, false, false] rfl rfl HT_.out ?_
             refine pS (i := 9) (N := some 118) #[true, true, false, true, false, false, true, false, false, true, false, false, false] rfl rfl HT_.out ?_
             refine take_ (i := 2) (N := some 111) (v := ?_) (a' := ?_) #[true, true, true, true, false, false, true, false, false, true, false, false, false] rfl rfl (take_ofW HT_.out HW_.out (by kernel_rfl)) (fun _ _ _ h => h) (Or.inl ⟨by rfl, ?_⟩) hHeld ?_ ?_; rotate_left
             ·rintro w' ⟨s0, s1, s2, s3⟩
              go_simp
              with_reducible rfl
             rotate_left
             ·simp only [Act.put, List.setIfInBounds_toArray, List.set_cons_zero, List.set_cons_succ, i64_w, i32_w]
              rfl
             refine take_ (i := 5) (N := some 114) (v := ?_) (a' := ?_) #[true, true, true, true, false, true, true, false, false, true, false, false, false] rfl rfl (take_ofW HT_.out HW_.out (by kernel_rfl)) (fun _ _ _ h => h) (Or.inl ⟨by rfl, ?_⟩) hHeld ?_ ?_; rotate_left
             ·rintro w' ⟨s0, s1, s2, s3⟩
              go_simp
              with_reducible rfl
             rotate_left
             ·simp only [Act.put, List.setIfInBounds_toArray, List.set_cons_zero, List.set_cons_succ, i64_w, i32_w]
              rfl
             refine one_ (i := 4) (N := some 113) #[true, true, true, true, true, true, true, false, false, true, false, false, false] rfl rfl (one_of HT_.out (by kernel_rfl)) (by decide) (fun K hK => ?_)
             refine goes_ Try.func18 (by kernel_rfl) rfl #[.agg #[.slice A0_0 l0_0.length c0_0, .int .i64 a0_1], .int .i64 x106_4] (by rfl) rfl rfl (by (try simp only [List.map_toArray, List.map_cons, List.map_nil]); first | done | rfl | (simp only [List.length_drop, List.length_take]; rfl)) ?_
             with_reducible refine (curve_At.calls k4 _ _ l0_0 a0_1 x106_4 t446 _ ?side1 ?side2 A82.out).mono ?_
             (case side1 => exact qC HR0_0.out HB.out)
             (case side2 => exact HC0_0.out)
             rintro e w85 ⟨rfl, hb⟩
             refine ⟨_, rfl, ?_⟩
             have n0_ := Aside0.mk (blk_below (qB BK426.out) hb)
             have n1_ := Aside0.mk (blk_below (qB BK427.out) hb)
             have n2_ := Aside0.mk (below_step (qW HB.out) hb)
             clear BK426 BK427 HB
             have BK426 := n0_
             have BK427 := n1_
             have HB := n2_
             clear n0_ n1_ n2_
             (try clear hb); (try clear hb2); (try clear hk); (try clear hi)
             refine hK.out _ _ ⟨(blk_cell BK426.out 0).trans rfl, (blk_cell BK426.out 1).trans rfl, (blk_cell BK427.out 0).trans rfl, (blk_cell BK427.out 1).trans rfl⟩ (fun hHeld => ?_); clear hK K
             refine norm_ (a' := ?_) ?_ ?_; rotate_left
             ·show Act.put _ (some 113) _ = _
              simp only [Act.put, List.setIfInBounds_toArray, List.set_cons_zero, List.set_cons_succ, i64_w, i32_w]
              rfl
             refine one_ (i := 7) (N := some 116) #[true, true, true, true, true, true, true, true, false, true, false, false, false] rfl rfl (one_of HT_.out (by kernel_rfl)) (by decide) (fun K hK => ?_)
             refine goes_ Try.func18 (by kernel_rfl) rfl #[.agg #[.slice A1_0 l1_0.length c1_0, .int .i64 a1_1], .int .i64 x106_4] (by rfl) rfl rfl (by (try simp only [List.map_toArray, List.map_cons, List.map_nil]); first | done | rfl | (simp only [List.length_drop, List.length_take]; rfl)) ?_
             with_reducible refine (curve_At.calls k4 _ _ l1_0 a1_1 x106_4 t447 _ ?side1 ?side2 A83.out).mono ?_
             (case side1 => exact qC HR1_0.out HB.out)
             (case side2 => exact HC1_0.out)
             rintro e w86 ⟨rfl, hb⟩
             refine ⟨_, rfl, ?_⟩
             have n0_ := Aside0.mk (blk_below (qB BK426.out) hb)
             have n1_ := Aside0.mk (blk_below (qB BK427.out) hb)
             have n2_ := Aside0.mk (below_step (qW HB.out) hb)
             clear BK426 BK427 HB
             have BK426 := n0_
             have BK427 := n1_
             have HB := n2_
             clear n0_ n1_ n2_
             (try clear hb); (try clear hb2); (try clear hk); (try clear hi)
             refine hK.out _ _ ⟨(blk_cell BK426.out 0).trans rfl, (blk_cell BK426.out 1).trans rfl, (blk_cell BK427.out 0).trans rfl, (blk_cell BK427.out 1).trans rfl⟩ (fun hHeld => ?_); clear hK K
             refine norm_ (a' := ?_) ?_ ?_; rotate_left
             ·show Act.put _ (some 116) _ = _
              simp only [Act.put, List.setIfInBounds_toArray, List.set_cons_zero, List.set_cons_succ, i64_w, i32_w]
              rfl
             refine pS (i := 8) (N := some 117) #[true, true, true, true, true, true, true, true, true, true, false, false, false] rfl rfl HT_.out ?_
             refine pS (i := 10) (N := some 119) #[true, true, true, true, true, true, true, true, true, true, true, false, false] rfl rfl HT_.out ?_
             refine pS (i := 11) (N := some 120) #[true, true, true, true, true, true, true, true, true, true, true, true, false] rfl rfl HT_.out ?_
             refine pS (i := 12) (N := some 14) #[true, true, true, true, true, true, true, true, true, true, true, true, true] rfl rfl HT_.out ?_
             refine done_ (done_of HT_.out (by kernel_rfl)) ?_
             try go_wp2
             go_roundg k4
             case measure => have := HJ3.out; have := HJ41.out; have := HJ47.out; have := HK4.out; omega
             case rel => exact ⟨(((wrap64 (t446 - t447)) == t442)), (wrap64 (x106_4 + 1)), (by first | rfl | (simp; done) | (simp [*]; done)), (by first | rfl | (simp; done) | (simp [*]; done)), H', ⟨by have := HJ3.out; have := HJ41.out; have := HJ47.out; have := HK4.out; omega⟩, ⟨by exact qB BK426.out⟩, ⟨by exact qB BK427.out⟩, ⟨by repeat (first | (with_reducible first | exact HB.out | apply below_alloc | apply pw_below_drewN | apply below_drew1 | refine below_set ?_ GE426.out | refine below_set ?_ GE427.out) | exact HB.out)⟩⟩
end Go.Proofs.Ytanlonngekgibaa.Pr

-- Written by pp.py, a program of this session, over the translation of the given program; a machine's text: Lean checks it.
import Derived.Test.YtcflacjidabppaaGShort
import Derived.Test.YtcflacjidabppaaGAwake
import Derived.Test.YtcflacjidabppaaGClone
import Derived.Test.YtcflacjidabppaaGPlan
import Derived.Test.YtcflacjidabppaaGSmall
namespace Go.Proofs.Ytcflacjidabppaa.Pr
open Go.RowKit Go.Proofs.YtcflacjidabppaaW.PrintWords Go.Proofs.YtcflacjidabppaaW.PrintLast Go.Proofs.YtcflacjidabppaaW.PrintMore
attribute [local go_sem] max2_int min2_int max_two min_two max_three min_three max_four min_four   -- for this text's walks alone
set_option linter.unusedVariables false
set_option linter.unusedSimpArgs false

/-! ### standbylaw56_PlannerImproves: function 7 -/
mutual
def standbylaw56_PlannerImproves.j0 : Nat → Bool → List Int → List Int → Int → Int → Int → List Int → List Int → Int → Option (Bool)
 | 0, _, _, _, _, _, _, _, _, _ => none
 | k + 1, x28, x368000, x368001, x368002, x368003, x368004, x369000, x369001, x369002 => if x28 = true then ((standbylaw56_awake.f).bind fun t372 => (some t372)) else ((slices_Clone_int_int.f x368000).bind fun t374 => ((slices_Clone_int_int.f x368001).bind fun t377 => (standbylaw56_PlannerImproves.l0 k x369001 (x369001.length : Int) 0 x368000 x368001 x368002 x368003 x368004 x369000 x369001 x369002 t374 t377 x368002 x368003 x368004)))
def standbylaw56_PlannerImproves.l0 : Nat → List Int → Int → Int → List Int → List Int → Int → Int → Int → List Int → List Int → Int → List Int → List Int → Int → Int → Int → Option (Bool)
 | 0, _, _, _, _, _, _, _, _, _, _, _, _, _, _, _, _ => none
 | k + 1, x40, x41, x42, x368000, x368001, x368002, x368003, x368004, x369000, x369001, x369002, x374000, x374001, x374002, x374003, x374004 => if x42 < x41 then (if 0 ≤ x42 then (if x42 < (x40.length : Int) then (if x42 < (x374000.length : Int) then (standbylaw56_PlannerImproves.l0 k x40 x41 (wrap64 (x42 + 1)) x368000 x368001 x368002 x368003 x368004 x369000 x369001 x369002 (x374000.set (x42 : Int).toNat (mx 0 (wrap64 ((rd x374000 x42) - (Int.tmod (wrap64 (rd x40 x42)) 4))))) x374001 x374002 x374003 x374004) else (standbylaw56_PlannerImproves.l0 k x40 x41 (wrap64 (x42 + 1)) x368000 x368001 x368002 x368003 x368004 x369000 x369001 x369002 x374000 x374001 x374002 x374003 x374004)) else (none)) else (none)) else (standbylaw56_PlannerImproves.l1 k x369000 (x369000.length : Int) 0 x368000 x368001 x368002 x368003 x368004 x369000 x369001 x369002 x374000 x374001 x374002 x374003 x374004)
def standbylaw56_PlannerImproves.l1 : Nat → List Int → Int → Int → List Int → List Int → Int → Int → Int → List Int → List Int → Int → List Int → List Int → Int → Int → Int → Option (Bool)
 | 0, _, _, _, _, _, _, _, _, _, _, _, _, _, _, _, _ => none
 | k + 1, x68, x69, x70, x368000, x368001, x368002, x368003, x368004, x369000, x369001, x369002, x374000, x374001, x374002, x374003, x374004 => if x70 < x69 then (if 0 ≤ x70 then (if x70 < (x68.length : Int) then (if x70 < (x374001.length : Int) then (standbylaw56_PlannerImproves.l1 k x68 x69 (wrap64 (x70 + 1)) x368000 x368001 x368002 x368003 x368004 x369000 x369001 x369002 x374000 (x374001.set (x70 : Int).toNat (wrap64 ((rd x374001 x70) + (Int.tmod (wrap64 (rd x68 x70)) 4)))) x374002 x374003 x374004) else (standbylaw56_PlannerImproves.l1 k x68 x69 (wrap64 (x70 + 1)) x368000 x368001 x368002 x368003 x368004 x369000 x369001 x369002 x374000 x374001 x374002 x374003 x374004)) else (none)) else (none)) else ((planner_Plan.f k x368000 x368001 x368002 x368003 x368004).bind fun bt386 => ((planner_Plan.f k x374000 x374001 x374002 (mx 0 (wrap64 (x368003 - (Int.tmod (wrap64 (x369002)) 4)))) x374004).bind fun bt401 => (if bt386.2.2.2.2.2 = 0 then (if bt401.2.2.2.2.2 = 0 then (if bt401.2.2.2.2.1 ≤ bt386.2.2.2.2.1 then ((standbylaw56_awake.f).bind fun t416 => (some t416)) else (none)) else (none)) else ((standbylaw56_awake.f).bind fun t417 => (some t417)))))
end
def standbylaw56_PlannerImproves.f (k : Nat) (l0_0 : List Int) (l0_1 : List Int) (a0_2 : Int) (a0_3 : Int) (a0_4 : Int) (l1_0 : List Int) (l1_1 : List Int) (a1_2 : Int) : Option (Bool) := (standbylaw56_small.f k l0_0 l0_1 a0_2 a0_3 a0_4).bind fun t369 => (if t369 = true then (if (l1_0.length : Int) > 60 then (standbylaw56_PlannerImproves.j0 k true l0_0 l0_1 a0_2 a0_3 a0_4 l1_0 l1_1 a1_2) else (standbylaw56_PlannerImproves.j0 k (decide ((l1_1.length : Int) > 60)) l0_0 l0_1 a0_2 a0_3 a0_4 l1_0 l1_1 a1_2)) else (standbylaw56_PlannerImproves.j0 k true l0_0 l0_1 a0_2 a0_3 a0_4 l1_0 l1_1 a1_2))
def standbylaw56_PlannerImproves.T4 : Bool × List (List Nat × List Nat) := (true, [([], []), ([0], [0]), ([1], [1]), ([], []), ([3], [3]), ([4, 2], [4]), ([0, 1, 2], []), ([6, 2, 5, 0, 1, 2], [2, 6]), ([0, 1, 2, 3, 4, 5, 6, 7], []), ([8, 5, 7, 0, 1, 2, 3, 4, 5, 6, 7], [5, 8])])
def standbylaw56_PlannerImproves.B4 : List Nat := [0, 1, 3, 0, 8, 31, 7, 127, 255, 511]
theorem standbylaw56_PlannerImproves.tab4 : rtab .any (opsOf Try.f7 4) = standbylaw56_PlannerImproves.T4 := by kernel_rfl
theorem standbylaw56_PlannerImproves.bits4 : waitsOk standbylaw56_PlannerImproves.T4.2 standbylaw56_PlannerImproves.B4 = true := by kernel_rfl
def standbylaw56_PlannerImproves.T9 : Bool × List (List Nat × List Nat) := (true, [([], []), ([0], [0]), ([], []), ([], []), ([3], [3]), ([], []), ([4, 5], [4, 5]), ([6], [6]), ([], []), ([8], [8]), ([9], [9]), ([7, 10], [7, 10]), ([11], [11]), ([1, 2, 0, 1, 2, 3, 4, 5, 6, 7, 8, 9, 10, 11, 12], [1, 2]), ([13, 12, 0, 1, 2, 3, 4, 5, 6, 7, 8, 9, 10, 11, 12], [12, 13])])
def standbylaw56_PlannerImproves.B9 : List Nat := [0, 1, 0, 0, 8, 0, 56, 120, 0, 256, 768, 2040, 4088, 8191, 16383]
theorem standbylaw56_PlannerImproves.tab9 : rtab .any (opsOf Try.f7 9) = standbylaw56_PlannerImproves.T9 := by kernel_rfl
theorem standbylaw56_PlannerImproves.bits9 : waitsOk standbylaw56_PlannerImproves.T9.2 standbylaw56_PlannerImproves.B9 = true := by kernel_rfl
set_option maxHeartbeats 8000000 in
set_option maxRecDepth 100000 in
theorem standbylaw56_PlannerImproves.calls (k : Nat) (A0_0 : Option Addr) (c0_0 : Nat) (l0_0 : List Int) (A0_1 : Option Addr) (c0_1 : Nat) (l0_1 : List Int) (a0_2 : Int) (a0_3 : Int) (a0_4 : Int) (A1_0 : Option Addr) (c1_0 : Nat) (l1_0 : List Int) (A1_1 : Option Addr) (c1_1 : Nat) (l1_1 : List Int) (a1_2 : Int) (r : Bool) (w : World) (hr0_0 : Kd.C (Kd.int .i64) w A0_0 l0_0.length l0_0) (hc0_0 : l0_0.length ≤ c0_0) (hr0_1 : Kd.C (Kd.int .i64) w A0_1 l0_1.length l0_1) (hc0_1 : l0_1.length ≤ c0_1) (hr1_0 : Kd.C (Kd.int .u8) w A1_0 l1_0.length l1_0) (hc1_0 : l1_0.length ≤ c1_0) (hr1_1 : Kd.C (Kd.int .u8) w A1_1 l1_1.length l1_1) (hc1_1 : l1_1.length ≤ c1_1) (h : standbylaw56_PlannerImproves.f k l0_0 l0_1 a0_2 a0_3 a0_4 l1_0 l1_1 a1_2 = some r) :
  Calls Try.prog 7 #[.agg #[.slice A0_0 l0_0.length c0_0, .slice A0_1 l0_1.length c0_1, .int .i64 a0_2, .int .i64 a0_3, .int .i64 a0_4], .agg #[.slice A1_0 l1_0.length c1_0, .slice A1_1 l1_1.length c1_1, .int .u8 a1_2]] w fun e w' => e = .returned (.bool r) ∧ Below w.heap.size w w' := by
 have hu24 := Try.underlying24
 have hu49 := Try.underlying49
 have hu28 := Try.underlying28
 have HR0_0 := Aside0.mk hr0_0
 have HC0_0 := Aside0.mk hc0_0
 clear hr0_0 hc0_0
 have HR0_1 := Aside0.mk hr0_1
 have HC0_1 := Aside0.mk hc0_1
 clear hr0_1 hc0_1
 have HR1_0 := Aside0.mk hr1_0
 have HC1_0 := Aside0.mk hc1_0
 clear hr1_0 hc1_0
 have HR1_1 := Aside0.mk hr1_1
 have HC1_1 := Aside0.mk hc1_1
 clear hr1_1 hc1_1
 have HB := Aside0.mk (Below.refl w.heap.size w)
 have H : ((standbylaw56_small.f k l0_0 l0_1 a0_2 a0_3 a0_4).bind fun t369 => (if t369 = true then (if (l1_0.length : Int) > 60 then (standbylaw56_PlannerImproves.j0 k true l0_0 l0_1 a0_2 a0_3 a0_4 l1_0 l1_1 a1_2) else (standbylaw56_PlannerImproves.j0 k (decide ((l1_1.length : Int) > 60)) l0_0 l0_1 a0_2 a0_3 a0_4 l1_0 l1_1 a1_2)) else (standbylaw56_PlannerImproves.j0 k true l0_0 l0_1 a0_2 a0_3 a0_4 l1_0 l1_1 a1_2))) = some r := h
 clear h
 have HC3 := Aside0.mk H
 clear H
 go_enter Try.func7, Try.ntmps7
 go_upto_region 1 with (first | ((with_reducible refine gate_dst (N := 2) rfl ?_); (try (refine gate_guard (by rfl) ?_; dsimp only)); refine box_event ?hg (N := 2) ?hd (cs := #[.slice A0_0 l0_0.length c0_0, .slice A0_1 l0_1.length c0_1, .int .i64 a0_2, .int .i64 a0_3, .int .i64 a0_4]) (t := 24) ?hr ?_; (case hd => rfl); (case hg => rfl); (case hr => first | (go_simp; done) | (go_simp; rfl)); intro gb367 hg w4 hbox hb; have n0_ := Aside0.mk (below_step (qW HB.out) hb); have n1_ := Aside0.mk (hbox); have n2_ := Aside0.mk ((by rw [hg]; exact (below_size (qW HB.out)) : w.heap.size ≤ gb367)); have n3_ := Aside0.mk ((by rw [hg]; exact (below_size (qW HB.out)) : w.heap.size ≤ gb367)); clear HB; have HB := n0_; have BK367 := n1_; have GW367 := n2_; have GE367 := n3_; clear n0_ n1_ n2_ n3_ hb hbox hg) | ((with_reducible refine gate_dst (N := 3) rfl ?_); (try (refine gate_guard (by rfl) ?_; dsimp only)); refine box_event ?hg (N := 3) ?hd (cs := #[.slice A1_0 l1_0.length c1_0, .slice A1_1 l1_1.length c1_1, .int .u8 a1_2]) (t := 49) ?hr ?_; (case hd => rfl); (case hg => rfl); (case hr => first | (go_simp; done) | (go_simp; rfl)); intro gb368 hg w5 hbox hb; have n0_ := Aside0.mk (blk_below (qB BK367.out) hb); have n1_ := Aside0.mk (below_step (qW HB.out) hb); have n2_ := Aside0.mk (hbox); have n3_ := Aside0.mk ((by rw [hg]; exact (below_size (qW HB.out)) : w.heap.size ≤ gb368)); have n4_ := Aside0.mk ((by rw [hg]; exact (below_size (qW HB.out)) : w.heap.size ≤ gb368)); have n5_ := Aside0.mk ((by rw [hg]; exact Nat.ne_of_lt (blk_lt (qB BK367.out)) : gb367 ≠ gb368)); have n6_ := Aside0.mk ((by rw [hg]; exact Nat.ne_of_gt (blk_lt (qB BK367.out)) : gb368 ≠ gb367)); clear BK367 HB; have BK367 := n0_; have HB := n1_; have BK368 := n2_; have GW368 := n3_; have GE368 := n4_; have NB367_368 := n5_; have NB368_367 := n6_; clear n0_ n1_ n2_ n3_ n4_ n5_ n6_ hb hbox hg))
 (try simp only [Act.put, List.setIfInBounds_toArray, List.set_cons_zero, List.set_cons_succ])
 go_cut [28] (fun v28 wc => ∃ (kq : Nat) (x28_2 : Bool), v28 = .bool x28_2 ∧ Aside0 (standbylaw56_PlannerImproves.j0 kq x28_2 l0_0 l0_1 a0_2 a0_3 a0_4 l1_0 l1_1 a1_2 = some r) ∧ Aside0 (kq ≤ k) ∧ Aside0 (wc.heap[gb367]? = some (.cells #[(.slice A0_0 l0_0.length c0_0), (.slice A0_1 l0_1.length c0_1), .int .i64 a0_2, .int .i64 a0_3, .int .i64 a0_4] 24 (0, 0))) ∧ Aside0 (wc.heap[gb368]? = some (.cells #[(.slice A1_0 l1_0.length c1_0), (.slice A1_1 l1_1.length c1_1), .int .u8 a1_2] 49 (0, 0))) ∧ Aside0 (Below w.heap.size w wc))
 case first =>
  have H := HC3.out
  clear HC3
  replace H := Option.bind_eq_some_iff.mp H
  obtain ⟨t369, A60, H⟩ := H
  replace H : (if t369 = true then (if (l1_0.length : Int) > 60 then (standbylaw56_PlannerImproves.j0 k true l0_0 l0_1 a0_2 a0_3 a0_4 l1_0 l1_1 a1_2) else (standbylaw56_PlannerImproves.j0 k (decide ((l1_1.length : Int) > 60)) l0_0 l0_1 a0_2 a0_3 a0_4 l1_0 l1_1 a1_2)) else (standbylaw56_PlannerImproves.j0 k true l0_0 l0_1 a0_2 a0_3 a0_4 l1_0 l1_1 a1_2)) = some r := H
  have A6 := Aside0.mk A60
  clear A60
  by_cases c7 : t369 = true
  case neg =>
   replace c7 := Bool.eq_false_iff.mpr c7
   subst c7
   have H1 : (standbylaw56_PlannerImproves.j0 k true l0_0 l0_1 a0_2 a0_3 a0_4 l1_0 l1_1 a1_2) = some r := by rw [if_neg (show ¬ (false = true) by decide)] at H; exact H
   clear H
   have H := H1
   clear H1
   have H' := Aside0.mk H
   clear H
   have hnb17 := NB367_368.out
   have hnc17 := NB368_367.out
   have hcz18_0 : w5.cell? ⟨gb367, 0, none⟩ = some (.slice A0_0 l0_0.length c0_0) := (blk_cell BK367.out 0).trans rfl
   have hcz18_1 : w5.cell? ⟨gb367, 1, none⟩ = some (.slice A0_1 l0_1.length c0_1) := (blk_cell BK367.out 1).trans rfl
   have hcz18_2 : w5.cell? ⟨gb367, 2, none⟩ = some (.int .i64 a0_2) := (blk_cell BK367.out 2).trans rfl
   have hcz18_3 : w5.cell? ⟨gb367, 3, none⟩ = some (.int .i64 a0_3) := (blk_cell BK367.out 3).trans rfl
   have hcz18_4 : w5.cell? ⟨gb367, 4, none⟩ = some (.int .i64 a0_4) := (blk_cell BK367.out 4).trans rfl
   have hfz18_0 := blk_frozen BK367.out 0
   have hfz18_1 := blk_frozen BK367.out 1
   have hfz18_2 := blk_frozen BK367.out 2
   have hfz18_3 := blk_frozen BK367.out 3
   have hfz18_4 := blk_frozen BK367.out 4
   go_wp2_with (first | ((with_reducible refine gate_callee (f := 23) rfl ?_); refine goesL_ (some 15) rfl rfl Try.func23 (by kernel_rfl) rfl #[.agg #[.slice A0_0 l0_0.length c0_0, .slice A0_1 l0_1.length c0_1, .int .i64 a0_2, .int .i64 a0_3, .int .i64 a0_4]] rfl (by (try simp only [List.map_toArray, List.map_cons, List.map_nil]); first | done | rfl | (simp only [List.length_drop, List.length_take]; rfl)) ?_; (with_reducible refine (standbylaw56_small.calls k _ _ l0_0 _ _ l0_1 a0_2 a0_3 a0_4 false _ ?side1 ?side2 ?side3 ?side4 A6.out).mono ?_); (case side1 => exact qC HR0_0.out HB.out); (case side2 => exact HC0_0.out); (case side3 => exact qC HR0_1.out HB.out); (case side4 => exact HC0_1.out); rintro e w19 ⟨rfl, hb⟩; refine ⟨_, rfl, ?_⟩; have n0_ := Aside0.mk (blk_below (qB BK367.out) hb); have n1_ := Aside0.mk (blk_below (qB BK368.out) hb); have n2_ := Aside0.mk (below_step (qW HB.out) hb); clear BK367 BK368 HB; have BK367 := n0_; have BK368 := n1_; have HB := n2_; clear n0_ n1_ n2_; (try clear hb); (try clear hb2); (try clear hk); (try clear hi)))
   go_meet
   case rel => exact ⟨_, (true), (by first | rfl | (simp; done) | (simp [*]; done)), H', ⟨by first | omega | exact Nat.le_refl _⟩, ⟨by exact qB BK367.out⟩, ⟨by exact qB BK368.out⟩, ⟨by repeat (first | (with_reducible first | exact HB.out | apply below_alloc | apply pw_below_drewN | apply below_drew1 | refine below_set ?_ GE367.out | refine below_set ?_ GE368.out) | exact HB.out)⟩⟩
  subst c7
  have H1 : (if (l1_0.length : Int) > 60 then (standbylaw56_PlannerImproves.j0 k true l0_0 l0_1 a0_2 a0_3 a0_4 l1_0 l1_1 a1_2) else (standbylaw56_PlannerImproves.j0 k (decide ((l1_1.length : Int) > 60)) l0_0 l0_1 a0_2 a0_3 a0_4 l1_0 l1_1 a1_2)) = some r := by rw [if_pos rfl] at H; exact H
  clear H
  have H := H1
  clear H1
  by_cases c8 : (l1_0.length : Int) > 60
  ·rw [if_pos c8] at H
   have c8b0 : decide (60 < (l1_0.length : Int)) = true := decide_eq_true c8
   have c8b1 : decide (60 < l1_0.length) = true := decide_eq_true (by omega)
   clear c8
   (first | rw [c8b0] | (simp only [i64_w, i32_w]; rw [c8b0]) | skip)
   have H' := Aside0.mk H
   clear H
   have hnb9 := NB367_368.out
   have hnc9 := NB368_367.out
   have hcz10_0 : w5.cell? ⟨gb367, 0, none⟩ = some (.slice A0_0 l0_0.length c0_0) := (blk_cell BK367.out 0).trans rfl
   have hcz10_1 : w5.cell? ⟨gb367, 1, none⟩ = some (.slice A0_1 l0_1.length c0_1) := (blk_cell BK367.out 1).trans rfl
   have hcz10_2 : w5.cell? ⟨gb367, 2, none⟩ = some (.int .i64 a0_2) := (blk_cell BK367.out 2).trans rfl
   have hcz10_3 : w5.cell? ⟨gb367, 3, none⟩ = some (.int .i64 a0_3) := (blk_cell BK367.out 3).trans rfl
   have hcz10_4 : w5.cell? ⟨gb367, 4, none⟩ = some (.int .i64 a0_4) := (blk_cell BK367.out 4).trans rfl
   have hfz10_0 := blk_frozen BK367.out 0
   have hfz10_1 := blk_frozen BK367.out 1
   have hfz10_2 := blk_frozen BK367.out 2
   have hfz10_3 := blk_frozen BK367.out 3
   have hfz10_4 := blk_frozen BK367.out 4
   go_wp2_with (first | ((with_reducible refine gate_callee (f := 23) rfl ?_); refine goesL_ (some 15) rfl rfl Try.func23 (by kernel_rfl) rfl #[.agg #[.slice A0_0 l0_0.length c0_0, .slice A0_1 l0_1.length c0_1, .int .i64 a0_2, .int .i64 a0_3, .int .i64 a0_4]] rfl (by (try simp only [List.map_toArray, List.map_cons, List.map_nil]); first | done | rfl | (simp only [List.length_drop, List.length_take]; rfl)) ?_; (with_reducible refine (standbylaw56_small.calls k _ _ l0_0 _ _ l0_1 a0_2 a0_3 a0_4 true _ ?side1 ?side2 ?side3 ?side4 A6.out).mono ?_); (case side1 => exact qC HR0_0.out HB.out); (case side2 => exact HC0_0.out); (case side3 => exact qC HR0_1.out HB.out); (case side4 => exact HC0_1.out); rintro e w11 ⟨rfl, hb⟩; refine ⟨_, rfl, ?_⟩; have n0_ := Aside0.mk (blk_below (qB BK367.out) hb); have n1_ := Aside0.mk (blk_below (qB BK368.out) hb); have n2_ := Aside0.mk (below_step (qW HB.out) hb); clear BK367 BK368 HB; have BK367 := n0_; have BK368 := n1_; have HB := n2_; clear n0_ n1_ n2_; (try clear hb); (try clear hb2); (try clear hk); (try clear hi); have hcz12_0 : w11.cell? ⟨gb368, 0, none⟩ = some (.slice A1_0 l1_0.length c1_0) := (blk_cell BK368.out 0).trans rfl; have hcz12_1 : w11.cell? ⟨gb368, 1, none⟩ = some (.slice A1_1 l1_1.length c1_1) := (blk_cell BK368.out 1).trans rfl; have hcz12_2 : w11.cell? ⟨gb368, 2, none⟩ = some (.int .u8 a1_2) := (blk_cell BK368.out 2).trans rfl; have hfz12_0 := blk_frozen BK368.out 0; have hfz12_1 := blk_frozen BK368.out 1; have hfz12_2 := blk_frozen BK368.out 2))
   go_meet
   case rel => exact ⟨_, (true), (by first | rfl | (simp; done) | (simp [*]; done)), H', ⟨by first | omega | exact Nat.le_refl _⟩, ⟨by exact qB BK367.out⟩, ⟨by exact qB BK368.out⟩, ⟨by repeat (first | (with_reducible first | exact HB.out | apply below_alloc | apply pw_below_drewN | apply below_drew1 | refine below_set ?_ GE367.out | refine below_set ?_ GE368.out) | exact HB.out)⟩⟩
  ·rw [if_neg c8] at H
   have c8b0 : decide (60 < (l1_0.length : Int)) = false := decide_eq_false c8
   have c8b1 : decide (60 < l1_0.length) = false := decide_eq_false (by omega)
   clear c8
   (first | rw [c8b0] | (simp only [i64_w, i32_w]; rw [c8b0]) | skip)
   have H' := Aside0.mk H
   clear H
   have hnb13 := NB367_368.out
   have hnc13 := NB368_367.out
   have hcz14_0 : w5.cell? ⟨gb367, 0, none⟩ = some (.slice A0_0 l0_0.length c0_0) := (blk_cell BK367.out 0).trans rfl
   have hcz14_1 : w5.cell? ⟨gb367, 1, none⟩ = some (.slice A0_1 l0_1.length c0_1) := (blk_cell BK367.out 1).trans rfl
   have hcz14_2 : w5.cell? ⟨gb367, 2, none⟩ = some (.int .i64 a0_2) := (blk_cell BK367.out 2).trans rfl
   have hcz14_3 : w5.cell? ⟨gb367, 3, none⟩ = some (.int .i64 a0_3) := (blk_cell BK367.out 3).trans rfl
   have hcz14_4 : w5.cell? ⟨gb367, 4, none⟩ = some (.int .i64 a0_4) := (blk_cell BK367.out 4).trans rfl
   have hfz14_0 := blk_frozen BK367.out 0
   have hfz14_1 := blk_frozen BK367.out 1
   have hfz14_2 := blk_frozen BK367.out 2
   have hfz14_3 := blk_frozen BK367.out 3
   have hfz14_4 := blk_frozen BK367.out 4
   go_wp2_with (first | ((with_reducible refine gate_callee (f := 23) rfl ?_); refine goesL_ (some 15) rfl rfl Try.func23 (by kernel_rfl) rfl #[.agg #[.slice A0_0 l0_0.length c0_0, .slice A0_1 l0_1.length c0_1, .int .i64 a0_2, .int .i64 a0_3, .int .i64 a0_4]] rfl (by (try simp only [List.map_toArray, List.map_cons, List.map_nil]); first | done | rfl | (simp only [List.length_drop, List.length_take]; rfl)) ?_; (with_reducible refine (standbylaw56_small.calls k _ _ l0_0 _ _ l0_1 a0_2 a0_3 a0_4 true _ ?side1 ?side2 ?side3 ?side4 A6.out).mono ?_); (case side1 => exact qC HR0_0.out HB.out); (case side2 => exact HC0_0.out); (case side3 => exact qC HR0_1.out HB.out); (case side4 => exact HC0_1.out); rintro e w15 ⟨rfl, hb⟩; refine ⟨_, rfl, ?_⟩; have n0_ := Aside0.mk (blk_below (qB BK367.out) hb); have n1_ := Aside0.mk (blk_below (qB BK368.out) hb); have n2_ := Aside0.mk (below_step (qW HB.out) hb); clear BK367 BK368 HB; have BK367 := n0_; have BK368 := n1_; have HB := n2_; clear n0_ n1_ n2_; (try clear hb); (try clear hb2); (try clear hk); (try clear hi); have hcz16_0 : w15.cell? ⟨gb368, 0, none⟩ = some (.slice A1_0 l1_0.length c1_0) := (blk_cell BK368.out 0).trans rfl; have hcz16_1 : w15.cell? ⟨gb368, 1, none⟩ = some (.slice A1_1 l1_1.length c1_1) := (blk_cell BK368.out 1).trans rfl; have hcz16_2 : w15.cell? ⟨gb368, 2, none⟩ = some (.int .u8 a1_2) := (blk_cell BK368.out 2).trans rfl; have hfz16_0 := blk_frozen BK368.out 0; have hfz16_1 := blk_frozen BK368.out 1; have hfz16_2 := blk_frozen BK368.out 2))
   go_meet
   case rel => exact ⟨_, (decide ((l1_1.length : Int) > 60)), (by first | rfl | (simp; done) | (simp [*]; done)), H', ⟨by first | omega | exact Nat.le_refl _⟩, ⟨by exact qB BK367.out⟩, ⟨by exact qB BK368.out⟩, ⟨by repeat (first | (with_reducible first | exact HB.out | apply below_alloc | apply pw_below_drewN | apply below_drew1 | refine below_set ?_ GE367.out | refine below_set ?_ GE368.out) | exact HB.out)⟩⟩
 case rest =>
  clear HC3
  try clear c1
  try clear c2
  try clear p2
  try clear c7
  try clear c8
  try clear c8b0
  try clear c8b1
  try clear c9
  try clear c13
  try clear c17
  try clear hcz10_0
  try clear hcz10_1
  try clear hcz10_2
  try clear hcz10_3
  try clear hcz10_4
  try clear hcz12_0
  try clear hcz12_1
  try clear hcz12_2
  try clear hcz14_0
  try clear hcz14_1
  try clear hcz14_2
  try clear hcz14_3
  try clear hcz14_4
  try clear hcz16_0
  try clear hcz16_1
  try clear hcz16_2
  try clear hcz18_0
  try clear hcz18_1
  try clear hcz18_2
  try clear hcz18_3
  try clear hcz18_4
  try clear hfz10_0
  try clear hfz10_1
  try clear hfz10_2
  try clear hfz10_3
  try clear hfz10_4
  try clear hfz12_0
  try clear hfz12_1
  try clear hfz12_2
  try clear hfz14_0
  try clear hfz14_1
  try clear hfz14_2
  try clear hfz14_3
  try clear hfz14_4
  try clear hfz16_0
  try clear hfz16_1
  try clear hfz16_2
  try clear hfz18_0
  try clear hfz18_1
  try clear hfz18_2
  try clear hfz18_3
  try clear hfz18_4
  obtain ⟨kq, x28_2, rfl, HA, HJ2, BK367, BK368, HB⟩ := hcut
  cases kq with
  | zero => exact absurd HA.out (by simp [standbylaw56_PlannerImproves.j0])
  | succ kj2 =>
   have H := HA.out
   clear HA
   simp only [standbylaw56_PlannerImproves.j0] at H
   by_cases c20 : x28_2 = true
   ·subst c20
    have H1 : ((standbylaw56_awake.f).bind fun t372 => (some t372)) = some r := by rw [if_pos rfl] at H; exact H
    clear H
    have H := H1
    clear H1
    replace H := Option.bind_eq_some_iff.mp H
    obtain ⟨t372, A210, H⟩ := H
    replace H : (some t372) = some r := H
    have A21 := Aside0.mk A210
    clear A210
    obtain rfl := Option.some.inj H
    go_wp2_with (first | ((with_reducible refine gate_callee (f := 12) rfl ?_); refine goesL_ (some 29) rfl rfl Try.func12 (by kernel_rfl) rfl #[] rfl (by (try simp only [List.map_toArray, List.map_cons, List.map_nil]); first | done | rfl | (simp only [List.length_drop, List.length_take]; rfl)) ?_; (with_reducible refine (standbylaw56_awake.calls  t372 _ A21.out).mono ?_); rintro e w22 ⟨rfl, hb⟩; refine ⟨_, rfl, ?_⟩; have n0_ := Aside0.mk (blk_below (qB BK367.out) hb); have n1_ := Aside0.mk (blk_below (qB BK368.out) hb); have n2_ := Aside0.mk (below_step (qW HB.out) hb); clear BK367 BK368 HB; have BK367 := n0_; have BK368 := n1_; have HB := n2_; clear n0_ n1_ n2_; (try clear hb); (try clear hb2); (try clear hk); (try clear hi)))
    go_ret
    exact ⟨by first | rfl | (simp [errW_none, errW_some] <;> rfl) | (simp [*, errW_none, errW_some] <;> rfl), by repeat (first | (with_reducible first | exact HB.out | apply below_alloc | apply pw_below_drewN | apply below_drew1 | refine below_set ?_ GE367.out | refine below_set ?_ GE368.out) | exact HB.out)⟩
   ·replace c20 := Bool.eq_false_iff.mpr c20
    subst c20
    have H1 : ((slices_Clone_int_int.f l0_0).bind fun t374 => ((slices_Clone_int_int.f l0_1).bind fun t377 => (standbylaw56_PlannerImproves.l0 kj2 l1_1 (l1_1.length : Int) 0 l0_0 l0_1 a0_2 a0_3 a0_4 l1_0 l1_1 a1_2 t374 t377 a0_2 a0_3 a0_4))) = some r := by rw [if_neg (show ¬ (false = true) by decide)] at H; exact H
    clear H
    have H := H1
    clear H1
    replace H := Option.bind_eq_some_iff.mp H
    obtain ⟨t374, A230, H⟩ := H
    replace H : ((slices_Clone_int_int.f l0_1).bind fun t377 => (standbylaw56_PlannerImproves.l0 kj2 l1_1 (l1_1.length : Int) 0 l0_0 l0_1 a0_2 a0_3 a0_4 l1_0 l1_1 a1_2 t374 t377 a0_2 a0_3 a0_4)) = some r := H
    have A23 := Aside0.mk A230
    clear A230
    replace H := Option.bind_eq_some_iff.mp H
    obtain ⟨t377, A240, H⟩ := H
    replace H : (standbylaw56_PlannerImproves.l0 kj2 l1_1 (l1_1.length : Int) 0 l0_0 l0_1 a0_2 a0_3 a0_4 l1_0 l1_1 a1_2 t374 t377 a0_2 a0_3 a0_4) = some r := H
    have A24 := Aside0.mk A240
    clear A240
    have H' := Aside0.mk H
    clear H
    have hnb25 := NB367_368.out
    have hnc25 := NB368_367.out
    have hcz26_0 : wc.cell? ⟨gb367, 0, none⟩ = some (.slice A0_0 l0_0.length c0_0) := (blk_cell BK367.out 0).trans rfl
    have hcz26_1 : wc.cell? ⟨gb367, 1, none⟩ = some (.slice A0_1 l0_1.length c0_1) := (blk_cell BK367.out 1).trans rfl
    have hcz26_2 : wc.cell? ⟨gb367, 2, none⟩ = some (.int .i64 a0_2) := (blk_cell BK367.out 2).trans rfl
    have hcz26_3 : wc.cell? ⟨gb367, 3, none⟩ = some (.int .i64 a0_3) := (blk_cell BK367.out 3).trans rfl
    have hcz26_4 : wc.cell? ⟨gb367, 4, none⟩ = some (.int .i64 a0_4) := (blk_cell BK367.out 4).trans rfl
    have hfz26_0 := blk_frozen BK367.out 0
    have hfz26_1 := blk_frozen BK367.out 1
    have hfz26_2 := blk_frozen BK367.out 2
    have hfz26_3 := blk_frozen BK367.out 3
    have hfz26_4 := blk_frozen BK367.out 4
    try go_wp2_with (first | ((with_reducible refine gate_dst (N := 5) rfl ?_); (try (refine gate_guard (by rfl) ?_; dsimp only)); refine box_event ?hg (N := 5) ?hd (cs := #[.slice none 0 0, .slice none 0 0, .int .i64 0, .int .i64 0, .int .i64 0]) (t := 24) ?hr ?_; (case hd => rfl); (case hg => rfl); (case hr => first | (go_simp; done) | (go_simp; rfl)); intro gb373 hg w27 hbox hb; have n0_ := Aside0.mk (blk_below (qB BK367.out) hb); have n1_ := Aside0.mk (blk_below (qB BK368.out) hb); have n2_ := Aside0.mk (below_step (qW HB.out) hb); have n3_ := Aside0.mk (hbox); have n4_ := Aside0.mk ((by rw [hg]; exact (below_size (qW HB.out)) : w.heap.size ≤ gb373)); have n5_ := Aside0.mk ((by rw [hg]; exact (below_size (qW HB.out)) : w.heap.size ≤ gb373)); have n6_ := Aside0.mk ((by rw [hg]; exact Nat.ne_of_lt (blk_lt (qB BK367.out)) : gb367 ≠ gb373)); have n7_ := Aside0.mk ((by rw [hg]; exact Nat.ne_of_gt (blk_lt (qB BK367.out)) : gb373 ≠ gb367)); have n8_ := Aside0.mk ((by rw [hg]; exact Nat.ne_of_lt (blk_lt (qB BK368.out)) : gb368 ≠ gb373)); have n9_ := Aside0.mk ((by rw [hg]; exact Nat.ne_of_gt (blk_lt (qB BK368.out)) : gb373 ≠ gb368)); clear BK367 BK368 HB; have BK367 := n0_; have BK368 := n1_; have HB := n2_; have BK373 := n3_; have GW373 := n4_; have GE373 := n5_; have NB367_373 := n6_; have NB373_367 := n7_; have NB368_373 := n8_; have NB373_368 := n9_; clear n0_ n1_ n2_ n3_ n4_ n5_ n6_ n7_ n8_ n9_ hb hbox hg; have hnb28 := NB373_367.out; have hnc28 := NB367_373.out; have hnb29 := NB373_368.out; have hnc29 := NB368_373.out; have hcz30_0 : w27.cell? ⟨gb373, 0, none⟩ = some (.slice none 0 0) := (blk_cell BK373.out 0).trans rfl; have hcz30_1 : w27.cell? ⟨gb373, 1, none⟩ = some (.slice none 0 0) := (blk_cell BK373.out 1).trans rfl; have hcz30_2 : w27.cell? ⟨gb373, 2, none⟩ = some (.int .i64 0) := (blk_cell BK373.out 2).trans rfl; have hcz30_3 : w27.cell? ⟨gb373, 3, none⟩ = some (.int .i64 0) := (blk_cell BK373.out 3).trans rfl; have hcz30_4 : w27.cell? ⟨gb373, 4, none⟩ = some (.int .i64 0) := (blk_cell BK373.out 4).trans rfl; have hfz30_0 := blk_frozen BK373.out 0; have hfz30_1 := blk_frozen BK373.out 1; have hfz30_2 := blk_frozen BK373.out 2; have hfz30_3 := blk_frozen BK373.out 3; have hfz30_4 := blk_frozen BK373.out 4))
    have n0_ : Aside0 ((((((w27.setCell ⟨gb373, 0, none⟩ (.slice A0_0 l0_0.length c0_0)).setCell ⟨gb373, 1, none⟩ (.slice A0_1 l0_1.length c0_1)).setCell ⟨gb373, 2, none⟩ (.int .i64 a0_2)).setCell ⟨gb373, 3, none⟩ (.int .i64 a0_3)).setCell ⟨gb373, 4, none⟩ (.int .i64 a0_4)).heap[gb367]? = some (.cells #[.slice A0_0 l0_0.length c0_0, .slice A0_1 l0_1.length c0_1, .int .i64 a0_2, .int .i64 a0_3, .int .i64 a0_4] 24 (0, 0))) := ⟨by (with_reducible repeat (first | refine blk_drewN ?_ _ | refine blk_drew ?_ | refine blk_alloc ?_ _)); refine blk_far ?_ NB367_373.out _; (with_reducible repeat (first | refine blk_drewN ?_ _ | refine blk_drew ?_ | refine blk_alloc ?_ _)); refine blk_far ?_ NB367_373.out _; (with_reducible repeat (first | refine blk_drewN ?_ _ | refine blk_drew ?_ | refine blk_alloc ?_ _)); refine blk_far ?_ NB367_373.out _; (with_reducible repeat (first | refine blk_drewN ?_ _ | refine blk_drew ?_ | refine blk_alloc ?_ _)); refine blk_far ?_ NB367_373.out _; (with_reducible repeat (first | refine blk_drewN ?_ _ | refine blk_drew ?_ | refine blk_alloc ?_ _)); refine blk_far ?_ NB367_373.out _; exact qB BK367.out⟩
    have n1_ : Aside0 ((((((w27.setCell ⟨gb373, 0, none⟩ (.slice A0_0 l0_0.length c0_0)).setCell ⟨gb373, 1, none⟩ (.slice A0_1 l0_1.length c0_1)).setCell ⟨gb373, 2, none⟩ (.int .i64 a0_2)).setCell ⟨gb373, 3, none⟩ (.int .i64 a0_3)).setCell ⟨gb373, 4, none⟩ (.int .i64 a0_4)).heap[gb368]? = some (.cells #[.slice A1_0 l1_0.length c1_0, .slice A1_1 l1_1.length c1_1, .int .u8 a1_2] 49 (0, 0))) := ⟨by (with_reducible repeat (first | refine blk_drewN ?_ _ | refine blk_drew ?_ | refine blk_alloc ?_ _)); refine blk_far ?_ NB368_373.out _; (with_reducible repeat (first | refine blk_drewN ?_ _ | refine blk_drew ?_ | refine blk_alloc ?_ _)); refine blk_far ?_ NB368_373.out _; (with_reducible repeat (first | refine blk_drewN ?_ _ | refine blk_drew ?_ | refine blk_alloc ?_ _)); refine blk_far ?_ NB368_373.out _; (with_reducible repeat (first | refine blk_drewN ?_ _ | refine blk_drew ?_ | refine blk_alloc ?_ _)); refine blk_far ?_ NB368_373.out _; (with_reducible repeat (first | refine blk_drewN ?_ _ | refine blk_drew ?_ | refine blk_alloc ?_ _)); refine blk_far ?_ NB368_373.out _; exact qB BK368.out⟩
    have n2_ : Aside0 ((((((w27.setCell ⟨gb373, 0, none⟩ (.slice A0_0 l0_0.length c0_0)).setCell ⟨gb373, 1, none⟩ (.slice A0_1 l0_1.length c0_1)).setCell ⟨gb373, 2, none⟩ (.int .i64 a0_2)).setCell ⟨gb373, 3, none⟩ (.int .i64 a0_3)).setCell ⟨gb373, 4, none⟩ (.int .i64 a0_4)).heap[gb373]? = some (.cells #[.slice A0_0 l0_0.length c0_0, .slice A0_1 l0_1.length c0_1, .int .i64 a0_2, .int .i64 a0_3, .int .i64 a0_4] 24 (0, 0))) := ⟨by (with_reducible repeat (first | refine blk_drewN ?_ _ | refine blk_drew ?_ | refine blk_alloc ?_ _)); refine blk_put (cs := #[.slice A0_0 l0_0.length c0_0, .slice A0_1 l0_1.length c0_1, .int .i64 a0_2, .int .i64 a0_3, .int .i64 0]) ?_ 4 _ rfl; (with_reducible repeat (first | refine blk_drewN ?_ _ | refine blk_drew ?_ | refine blk_alloc ?_ _)); refine blk_put (cs := #[.slice A0_0 l0_0.length c0_0, .slice A0_1 l0_1.length c0_1, .int .i64 a0_2, .int .i64 0, .int .i64 0]) ?_ 3 _ rfl; (with_reducible repeat (first | refine blk_drewN ?_ _ | refine blk_drew ?_ | refine blk_alloc ?_ _)); refine blk_put (cs := #[.slice A0_0 l0_0.length c0_0, .slice A0_1 l0_1.length c0_1, .int .i64 0, .int .i64 0, .int .i64 0]) ?_ 2 _ rfl; (with_reducible repeat (first | refine blk_drewN ?_ _ | refine blk_drew ?_ | refine blk_alloc ?_ _)); refine blk_put (cs := #[.slice A0_0 l0_0.length c0_0, .slice none 0 0, .int .i64 0, .int .i64 0, .int .i64 0]) ?_ 1 _ rfl; (with_reducible repeat (first | refine blk_drewN ?_ _ | refine blk_drew ?_ | refine blk_alloc ?_ _)); refine blk_put (cs := #[.slice none 0 0, .slice none 0 0, .int .i64 0, .int .i64 0, .int .i64 0]) ?_ 0 _ rfl; exact qB BK373.out⟩
    have n3_ : Aside0 (Below w.heap.size w (((((w27.setCell ⟨gb373, 0, none⟩ (.slice A0_0 l0_0.length c0_0)).setCell ⟨gb373, 1, none⟩ (.slice A0_1 l0_1.length c0_1)).setCell ⟨gb373, 2, none⟩ (.int .i64 a0_2)).setCell ⟨gb373, 3, none⟩ (.int .i64 a0_3)).setCell ⟨gb373, 4, none⟩ (.int .i64 a0_4))) := ⟨by repeat (first | (with_reducible first | exact HB.out | apply below_alloc | apply pw_below_drewN | apply below_drew1 | refine below_set ?_ GE367.out | refine below_set ?_ GE368.out | refine below_set ?_ GE373.out) | exact HB.out)⟩
    (try clear BK367); (try clear BK368); (try clear BK373); (try clear HB)
    generalize (((((w27.setCell ⟨gb373, 0, none⟩ (.slice A0_0 l0_0.length c0_0)).setCell ⟨gb373, 1, none⟩ (.slice A0_1 l0_1.length c0_1)).setCell ⟨gb373, 2, none⟩ (.int .i64 a0_2)).setCell ⟨gb373, 3, none⟩ (.int .i64 a0_3)).setCell ⟨gb373, 4, none⟩ (.int .i64 a0_4)) = w31 at n0_ n1_ n2_ n3_ ⊢
    have BK367 := n0_
    have BK368 := n1_
    have BK373 := n2_
    have HB := n3_
    clear n0_ n1_ n2_ n3_
    have n0_ := Aside0.mk (blk_drew BK367.out)
    have n1_ := Aside0.mk (blk_drew BK368.out)
    have n2_ := Aside0.mk (blk_drew BK373.out)
    have n3_ := Aside0.mk (below_drew1 HB.out)
    clear BK367 BK368 BK373 HB
    have BK367 := n0_
    have BK368 := n1_
    have BK373 := n2_
    have HB := n3_
    clear n0_ n1_ n2_ n3_
    refine start_ (n := 10) (S := fun w' => w'.cell? ⟨gb367, 0, none⟩ = some (.slice A0_0 l0_0.length c0_0) ∧ w'.cell? ⟨gb367, 1, none⟩ = some (.slice A0_1 l0_1.length c0_1) ∧ w'.cell? ⟨gb367, 2, none⟩ = some (.int .i64 a0_2) ∧ w'.cell? ⟨gb367, 3, none⟩ = some (.int .i64 a0_3) ∧ w'.cell? ⟨gb367, 4, none⟩ = some (.int .i64 a0_4)) (ds := []) #[false, false, false, false, false, false, false, false, false, false] (by kernel_rfl) rfl rfl ⟨(blk_cell BK367.out 0).trans rfl, (blk_cell BK367.out 1).trans rfl, (blk_cell BK367.out 2).trans rfl, (blk_cell BK367.out 3).trans rfl, (blk_cell BK367.out 4).trans rfl⟩ (fun hHeld => ?_); refine with_tabW standbylaw56_PlannerImproves.tab4 standbylaw56_PlannerImproves.bits4 (fun HT_ HW_ => ?_)
    generalize w31.drew = w32 at BK367 BK368 BK373 HB hHeld ⊢
    refine pS (i := 0) (N := some 31) #[true, false, false, false, false, false, false, false, false, false] rfl rfl HT_.out ?_
    refine pS (i := 3) (N := some 34) #[true, false, false, true, false, false, false, false, false, false] rfl rfl HT_.out ?_
    refine take_ (i := 1) (N := some 32) (v := ?_) (a' := ?_) #[true, true, false, true, false, false, false, false, false, false] rfl rfl (take_ofW HT_.out HW_.out (by kernel_rfl)) (fun _ _ _ h => h) (Or.inl ⟨by rfl, ?_⟩) hHeld ?_ ?_; rotate_left
    ·rintro w' ⟨s0, s1, s2, s3, s4⟩
     go_simp
     with_reducible rfl
    rotate_left
    ·simp only [Act.put, List.setIfInBounds_toArray, List.set_cons_zero, List.set_cons_succ, i64_w, i32_w]
     rfl
    refine take_ (i := 4) (N := some 35) (v := ?_) (a' := ?_) #[true, true, false, true, true, false, false, false, false, false] rfl rfl (take_ofW HT_.out HW_.out (by kernel_rfl)) (fun _ _ _ h => h) (Or.inl ⟨by rfl, ?_⟩) hHeld ?_ ?_; rotate_left
    ·rintro w' ⟨s0, s1, s2, s3, s4⟩
     go_simp
     with_reducible rfl
    rotate_left
    ·simp only [Act.put, List.setIfInBounds_toArray, List.set_cons_zero, List.set_cons_succ, i64_w, i32_w]
     rfl
    refine one_ (i := 2) (N := some 33) #[true, true, true, true, true, false, false, false, false, false] rfl rfl (one_of HT_.out (by kernel_rfl)) (by decide) (fun K hK => ?_)
    refine goes_ Try.func26 (by kernel_rfl) rfl #[.slice A0_0 l0_0.length c0_0] (by rfl) rfl rfl (by (try simp only [List.map_toArray, List.map_cons, List.map_nil]); first | done | rfl | (simp only [List.length_drop, List.length_take]; rfl)) ?_
    with_reducible refine (slices_Clone_int_int.calls _ _ l0_0 t374 _ ?side1 ?side2 A23.out).mono ?_
    (case side1 => exact qC HR0_0.out HB.out)
    (case side2 => exact HC0_0.out)
    rintro e w33 ⟨v375, rfl, ho0, hb⟩
    refine ⟨_, rfl, ?_⟩
    have n0_ := Aside0.mk (Kd.R_lower ho0 (below_size (qW HB.out)))
    have n1_ := Aside0.mk (blk_below (qB BK367.out) hb)
    have n2_ := Aside0.mk (blk_below (qB BK368.out) hb)
    have n3_ := Aside0.mk (blk_below (qB BK373.out) hb)
    have n4_ := Aside0.mk (below_step (qW HB.out) hb)
    clear BK367 BK368 BK373 HB
    have HO376 := n0_
    have BK367 := n1_
    have BK368 := n2_
    have BK373 := n3_
    have HB := n4_
    clear n0_ n1_ n2_ n3_ n4_
    (try clear hb); (try clear hb2); (try clear hk); (try clear hi); (try clear ho0)
    refine hK.out _ _ ⟨(blk_cell BK367.out 0).trans rfl, (blk_cell BK367.out 1).trans rfl, (blk_cell BK367.out 2).trans rfl, (blk_cell BK367.out 3).trans rfl, (blk_cell BK367.out 4).trans rfl⟩ (fun hHeld => ?_); clear hK K
    refine norm_ (a' := ?_) ?_ ?_; rotate_left
    ·show Act.put _ (some 33) _ = _
     simp only [Act.put, List.setIfInBounds_toArray, List.set_cons_zero, List.set_cons_succ, i64_w, i32_w]
     rfl
    refine pS (i := 6) (N := some 37) #[true, true, true, true, true, false, true, false, false, false] rfl rfl HT_.out ?_
    refine one_ (i := 5) (N := some 36) #[true, true, true, true, true, true, true, false, false, false] rfl rfl (one_of HT_.out (by kernel_rfl)) (by decide) (fun K hK => ?_)
    refine goes_ Try.func26 (by kernel_rfl) rfl #[.slice A0_1 l0_1.length c0_1] (by rfl) rfl rfl (by (try simp only [List.map_toArray, List.map_cons, List.map_nil]); first | done | rfl | (simp only [List.length_drop, List.length_take]; rfl)) ?_
    with_reducible refine (slices_Clone_int_int.calls _ _ l0_1 t377 _ ?side1 ?side2 A24.out).mono ?_
    (case side1 => exact qC HR0_1.out HB.out)
    (case side2 => exact HC0_1.out)
    rintro e w34 ⟨v378, rfl, ho0, hb⟩
    refine ⟨_, rfl, ?_⟩
    have n0_ := Aside0.mk (Kd.R_elder' (qR HO376.out) (Kd.R_base ho0) hb)
    have n1_ := Aside0.mk (Kd.R_lower (Kd.R_new' ho0 (Kd.R_lt (qR HO376.out))) (below_size (qW HB.out)))
    have n2_ := Aside0.mk (blk_below (qB BK367.out) hb)
    have n3_ := Aside0.mk (blk_below (qB BK368.out) hb)
    have n4_ := Aside0.mk (blk_below (qB BK373.out) hb)
    have n5_ := Aside0.mk (below_step (qW HB.out) hb)
    clear HO376 BK367 BK368 BK373 HB
    have HO376 := n0_
    have HO379 := n1_
    have BK367 := n2_
    have BK368 := n3_
    have BK373 := n4_
    have HB := n5_
    clear n0_ n1_ n2_ n3_ n4_ n5_
    (try clear hb); (try clear hb2); (try clear hk); (try clear hi); (try clear ho0)
    obtain ⟨Ao35, co35, eo35⟩ := Kd.R_slice HO376.out
    (first | subst eo35 | (injection eo35 with f1_ f2_ f3_; have f4_ := f1_.symm; have f5_ := f3_.symm; clear f1_ f2_ f3_; subst f4_; subst f5_))
    obtain ⟨Ao37, co37, eo37⟩ := Kd.R_slice HO379.out
    (first | subst eo37 | (injection eo37 with f1_ f2_ f3_; have f4_ := f1_.symm; have f5_ := f3_.symm; clear f1_ f2_ f3_; subst f4_; subst f5_))
    refine hK.out _ _ ⟨(blk_cell BK367.out 0).trans rfl, (blk_cell BK367.out 1).trans rfl, (blk_cell BK367.out 2).trans rfl, (blk_cell BK367.out 3).trans rfl, (blk_cell BK367.out 4).trans rfl⟩ (fun hHeld => ?_); clear hK K
    refine norm_ (a' := ?_) ?_ ?_; rotate_left
    ·show Act.put _ (some 36) _ = _
     simp only [Act.put, List.setIfInBounds_toArray, List.set_cons_zero, List.set_cons_succ, i64_w, i32_w]
     rfl
    refine one_ (i := 7) (N := none) #[true, true, true, true, true, true, true, true, false, false] rfl rfl (one_of HT_.out (by kernel_rfl)) (by decide) (fun K hK => ?_)
    have hs36 : w34.cell? ⟨gb373, 0, none⟩ = some (.slice A0_0 l0_0.length c0_0) := (blk_cell BK373.out 0).trans rfl
    have hfs36 := blk_frozen BK373.out 0
    have hns36_0 := NB367_373.out
    have hns36_1 := NB368_373.out
    have hms36_0 := NB373_367.out
    have hms36_1 := NB373_368.out
    refine skip_ (w1 := ?_) (by rfl) rfl ?_ ?_; rotate_left
    ·go_simp
     rfl
    refine hK.out _ _ ⟨((cell_far (p := ⟨gb373, _, none⟩) NB367_373.out _).trans (hHeld.1)), ((cell_far (p := ⟨gb373, _, none⟩) NB367_373.out _).trans (hHeld.2.1)), ((cell_far (p := ⟨gb373, _, none⟩) NB367_373.out _).trans (hHeld.2.2.1)), ((cell_far (p := ⟨gb373, _, none⟩) NB367_373.out _).trans (hHeld.2.2.2.1)), ((cell_far (p := ⟨gb373, _, none⟩) NB367_373.out _).trans (hHeld.2.2.2.2))⟩ (fun hHeld => ?_); clear hK K
    refine pS (i := 8) (N := some 38) #[true, true, true, true, true, true, true, true, true, false] rfl rfl HT_.out ?_
    refine one_ (i := 9) (N := none) #[true, true, true, true, true, true, true, true, true, true] rfl rfl (one_of HT_.out (by kernel_rfl)) (by decide) (fun K hK => ?_)
    have hs38 : w34.cell? ⟨gb373, 1, none⟩ = some (.slice A0_1 l0_1.length c0_1) := (blk_cell BK373.out 1).trans rfl
    have hfs38 := blk_frozen BK373.out 1
    have hns38_0 := NB367_373.out
    have hns38_1 := NB368_373.out
    have hms38_0 := NB373_367.out
    have hms38_1 := NB373_368.out
    refine skip_ (w1 := ?_) (by rfl) rfl ?_ ?_; rotate_left
    ·go_simp
     rfl
    refine hK.out _ _ ⟨((cell_far (p := ⟨gb373, _, none⟩) NB367_373.out _).trans (hHeld.1)), ((cell_far (p := ⟨gb373, _, none⟩) NB367_373.out _).trans (hHeld.2.1)), ((cell_far (p := ⟨gb373, _, none⟩) NB367_373.out _).trans (hHeld.2.2.1)), ((cell_far (p := ⟨gb373, _, none⟩) NB367_373.out _).trans (hHeld.2.2.2.1)), ((cell_far (p := ⟨gb373, _, none⟩) NB367_373.out _).trans (hHeld.2.2.2.2))⟩ (fun hHeld => ?_); clear hK K
    refine done_ (done_of HT_.out (by kernel_rfl)) ?_
    have hcz39_0 : w34.cell? ⟨gb368, 0, none⟩ = some (.slice A1_0 l1_0.length c1_0) := (blk_cell BK368.out 0).trans rfl
    have hcz39_1 : w34.cell? ⟨gb368, 1, none⟩ = some (.slice A1_1 l1_1.length c1_1) := (blk_cell BK368.out 1).trans rfl
    have hcz39_2 : w34.cell? ⟨gb368, 2, none⟩ = some (.int .u8 a1_2) := (blk_cell BK368.out 2).trans rfl
    have hfz39_0 := blk_frozen BK368.out 0
    have hfz39_1 := blk_frozen BK368.out 1
    have hfz39_2 := blk_frozen BK368.out 2
    try go_wp2
    go_loopg [42] kj2 (fun kq v42 w' => ∃ (x42_2 : Int) (x374000_2 : List Int) (x374001_2 : List Int) (u374000 : Value) (u374001 : Value), v42 = .int .i64 x42_2 ∧ Aside0 (standbylaw56_PlannerImproves.l0 kq l1_1 (l1_1.length : Int) x42_2 l0_0 l0_1 a0_2 a0_3 a0_4 l1_0 l1_1 a1_2 x374000_2 x374001_2 a0_2 a0_3 a0_4 = some r) ∧ Aside0 (kq ≤ kj2) ∧ Aside0 (Kd.R (Kd.int .i64) 3 w' w.heap.size (fun k_ => some k_ ≠ (u374001 : Value).ownBlock) u374000 x374000_2) ∧ Aside0 (Kd.R (Kd.int .i64) 3 w' w.heap.size (fun k_ => some k_ ≠ (u374000 : Value).ownBlock) u374001 x374001_2) ∧ Aside0 (w'.heap[gb367]? = some (.cells #[(.slice A0_0 l0_0.length c0_0), (.slice A0_1 l0_1.length c0_1), .int .i64 a0_2, .int .i64 a0_3, .int .i64 a0_4] 24 (0, 0))) ∧ Aside0 (w'.heap[gb368]? = some (.cells #[(.slice A1_0 l1_0.length c1_0), (.slice A1_1 l1_1.length c1_1), .int .u8 a1_2] 49 (0, 0))) ∧ Aside0 (w'.heap[gb373]? = some (.cells #[u374000, u374001, .int .i64 a0_2, .int .i64 a0_3, .int .i64 a0_4] 24 (0, 0))) ∧ Aside0 (Below w.heap.size w w'))
    case atStart => exact ⟨(0), (t374), (t377), (.slice Ao35 t374.length co35), (.slice Ao37 t377.length co37), (by first | rfl | (simp; done) | (simp [*]; done)), H', ⟨Nat.le_refl _⟩, ⟨by exact qR (Kd.R_mono (Kd.R_far (p := ⟨gb373, 1, none⟩) (Kd.R_far (p := ⟨gb373, 0, none⟩) (Kd.R_types HO376.out BK373.out (by decide)) (fun _ hk => hk.2) (.slice Ao35 t374.length co35)) (fun _ hk => hk.2) (.slice Ao37 t377.length co37)) (fun _ hk => hk.1.2))⟩, ⟨by exact qR (Kd.R_mono (Kd.R_far (p := ⟨gb373, 1, none⟩) (Kd.R_far (p := ⟨gb373, 0, none⟩) (Kd.R_types HO379.out BK373.out (by decide)) (fun _ hk => hk.2) (.slice Ao35 t374.length co35)) (fun _ hk => hk.2) (.slice Ao37 t377.length co37)) (fun _ hk => hk.1.2))⟩, ⟨by (with_reducible repeat (first | refine blk_drewN ?_ _ | refine blk_drew ?_ | refine blk_alloc ?_ _)); refine blk_far ?_ NB367_373.out _; (with_reducible repeat (first | refine blk_drewN ?_ _ | refine blk_drew ?_ | refine blk_alloc ?_ _)); refine blk_far ?_ NB367_373.out _; exact qB BK367.out⟩, ⟨by (with_reducible repeat (first | refine blk_drewN ?_ _ | refine blk_drew ?_ | refine blk_alloc ?_ _)); refine blk_far ?_ NB368_373.out _; (with_reducible repeat (first | refine blk_drewN ?_ _ | refine blk_drew ?_ | refine blk_alloc ?_ _)); refine blk_far ?_ NB368_373.out _; exact qB BK368.out⟩, ⟨by (with_reducible repeat (first | refine blk_drewN ?_ _ | refine blk_drew ?_ | refine blk_alloc ?_ _)); refine blk_put (cs := #[.slice Ao35 t374.length co35, .slice A0_1 l0_1.length c0_1, .int .i64 a0_2, .int .i64 a0_3, .int .i64 a0_4]) ?_ 1 _ rfl; (with_reducible repeat (first | refine blk_drewN ?_ _ | refine blk_drew ?_ | refine blk_alloc ?_ _)); refine blk_put (cs := #[.slice A0_0 l0_0.length c0_0, .slice A0_1 l0_1.length c0_1, .int .i64 a0_2, .int .i64 a0_3, .int .i64 a0_4]) ?_ 0 _ rfl; exact qB BK373.out⟩, ⟨by repeat (first | (with_reducible first | exact HB.out | apply below_alloc | apply pw_below_drewN | apply below_drew1 | refine below_set ?_ GE367.out | refine below_set ?_ GE368.out | refine below_set ?_ GE373.out) | exact HB.out)⟩⟩
    case round =>
     clear H'
     try clear c1
     try clear c2
     try clear p2
     try clear c7
     try clear c8
     try clear c8b0
     try clear c8b1
     try clear c9
     try clear c12
     try clear c13
     try clear c17
     try clear c20
     try clear c23
     try clear c25
     try clear c26
     try clear c28
     try clear c29
     try clear hcz10_0
     try clear hcz10_1
     try clear hcz10_2
     try clear hcz10_3
     try clear hcz10_4
     try clear hcz12_0
     try clear hcz12_1
     try clear hcz12_2
     try clear hcz14_0
     try clear hcz14_1
     try clear hcz14_2
     try clear hcz14_3
     try clear hcz14_4
     try clear hcz16_0
     try clear hcz16_1
     try clear hcz16_2
     try clear hcz18_0
     try clear hcz18_1
     try clear hcz18_2
     try clear hcz18_3
     try clear hcz18_4
     try clear hcz26_0
     try clear hcz26_1
     try clear hcz26_2
     try clear hcz26_3
     try clear hcz26_4
     try clear hcz30_0
     try clear hcz30_1
     try clear hcz30_2
     try clear hcz30_3
     try clear hcz30_4
     try clear hcz39_0
     try clear hcz39_1
     try clear hcz39_2
     try clear hfz10_0
     try clear hfz10_1
     try clear hfz10_2
     try clear hfz10_3
     try clear hfz10_4
     try clear hfz12_0
     try clear hfz12_1
     try clear hfz12_2
     try clear hfz14_0
     try clear hfz14_1
     try clear hfz14_2
     try clear hfz14_3
     try clear hfz14_4
     try clear hfz16_0
     try clear hfz16_1
     try clear hfz16_2
     try clear hfz18_0
     try clear hfz18_1
     try clear hfz18_2
     try clear hfz18_3
     try clear hfz18_4
     try clear hfz26_0
     try clear hfz26_1
     try clear hfz26_2
     try clear hfz26_3
     try clear hfz26_4
     try clear hfz30_0
     try clear hfz30_1
     try clear hfz30_2
     try clear hfz30_3
     try clear hfz30_4
     try clear hfz39_0
     try clear hfz39_1
     try clear hfz39_2
     try clear p2
     obtain ⟨x42_2, x374000_2, x374001_2, u374000, u374001, rfl, HA, HK2, HO_374000, HO_374001, BK367, BK368, BK373, HB⟩ := hrel
     cases gk with
     | zero => exact absurd HA.out (by simp [standbylaw56_PlannerImproves.l0])
     | succ k2 =>
      have H := HA.out
      clear HA
      simp only [standbylaw56_PlannerImproves.l0] at H
      by_cases c40 : x42_2 < (l1_1.length : Int)
      ·rw [if_pos c40] at H
       have c40b0 : decide (x42_2 < (l1_1.length : Int)) = true := decide_eq_true c40
       clear c40
       by_cases c41 : 0 ≤ x42_2
       case neg =>
        rw [if_neg c41] at H
        exact absurd H (by simp)
       rw [if_pos c41] at H
       have c41b0 : decide (0 ≤ x42_2) = true := decide_eq_true c41
       clear c41
       by_cases c42 : x42_2 < (l1_1.length : Int)
       case neg =>
        rw [if_neg c42] at H
        exact absurd H (by simp)
       rw [if_pos c42] at H
       have c42b0 : decide (x42_2 < (l1_1.length : Int)) = true := decide_eq_true c42
       clear c42
       by_cases c43 : x42_2 < (x374000_2.length : Int)
       case neg =>
        rw [if_neg c43] at H
        have c43b0 : decide (x42_2 < (x374000_2.length : Int)) = false := decide_eq_false c43
        clear c43
        have H' := Aside0.mk H
        clear H
        have p380 : 0 ≤ (x42_2 : Int) := of_decide_eq_true (by first | (with_reducible assumption) | assumption)
        have q380 : x42_2 < (l1_1.length : Int) := of_decide_eq_true (by first | (with_reducible assumption) | assumption)
        obtain ⟨ad380, e380, hx380_0⟩ := Kd.at_int HR1_1.out x42_2 p380 q380
        cases e380
        replace hx380_0 := (HB.out.cell (World.block_lt_of_cell? w _ hx380_0)).trans hx380_0
        replace p380 := eq_true p380
        replace q380 := eq_true q380
        have hnb52 := NB373_367.out
        have hnc52 := NB367_373.out
        have hnb53 := NB373_368.out
        have hnc53 := NB368_373.out
        have hcz54_0 : wr.cell? ⟨gb373, 0, none⟩ = some (u374000) := (blk_cell BK373.out 0).trans rfl
        have hcz54_1 : wr.cell? ⟨gb373, 1, none⟩ = some (u374001) := (blk_cell BK373.out 1).trans rfl
        have hcz54_2 : wr.cell? ⟨gb373, 2, none⟩ = some (.int .i64 a0_2) := (blk_cell BK373.out 2).trans rfl
        have hcz54_3 : wr.cell? ⟨gb373, 3, none⟩ = some (.int .i64 a0_3) := (blk_cell BK373.out 3).trans rfl
        have hcz54_4 : wr.cell? ⟨gb373, 4, none⟩ = some (.int .i64 a0_4) := (blk_cell BK373.out 4).trans rfl
        have hfz54_0 := blk_frozen BK373.out 0
        have hfz54_1 := blk_frozen BK373.out 1
        have hfz54_2 := blk_frozen BK373.out 2
        have hfz54_3 := blk_frozen BK373.out 3
        have hfz54_4 := blk_frozen BK373.out 4
        obtain ⟨Ao55, co55, eo55⟩ := Kd.R_slice HO_374000.out
        subst eo55
        go_wp2
        go_roundg k2
        case measure => have := HJ2.out; have := HK2.out; omega
        case rel => exact ⟨(wrap64 (x42_2 + 1)), (x374000_2), (x374001_2), (.slice Ao55 x374000_2.length co55), (u374001), (by first | rfl | (simp; done) | (simp [*]; done)), H', ⟨by have := HJ2.out; have := HK2.out; omega⟩, ⟨by exact qR HO_374000.out⟩, ⟨by exact qR HO_374001.out⟩, ⟨by exact qB BK367.out⟩, ⟨by exact qB BK368.out⟩, ⟨by exact qB BK373.out⟩, ⟨by repeat (first | (with_reducible first | exact HB.out | apply below_alloc | apply pw_below_drewN | apply below_drew1 | refine below_set ?_ GE367.out | refine below_set ?_ GE368.out | refine below_set ?_ GE373.out) | exact HB.out)⟩⟩
       rw [if_pos c43] at H
       have c43b0 : decide (x42_2 < (x374000_2.length : Int)) = true := decide_eq_true c43
       clear c43
       obtain ⟨ji44, hji44⟩ : ∃ j_ : Int, (mx 0 (wrap64 ((rd x374000_2 x42_2) - (Int.tmod (wrap64 (rd l1_1 x42_2)) 4)))) = j_ := ⟨_, rfl⟩
       replace H : (standbylaw56_PlannerImproves.l0 k2 l1_1 (l1_1.length : Int) (wrap64 (x42_2 + 1)) l0_0 l0_1 a0_2 a0_3 a0_4 l1_0 l1_1 a1_2 (x374000_2.set (x42_2 : Int).toNat (ji44)) x374001_2 a0_2 a0_3 a0_4) = some r := by first | (rw [hji44] at H; exact H) | (simp only [hji44] at H ⊢; exact H)
       have hji44_ : (if 0 < (wrap64 ((rd x374000_2 x42_2) - (Int.tmod (wrap64 (rd l1_1 x42_2)) 4))) then (wrap64 ((rd x374000_2 x42_2) - (Int.tmod (wrap64 (rd l1_1 x42_2)) 4))) else 0) = ji44 := hji44
       obtain ⟨y382, hy382⟩ : ∃ y_ : List Int, y_ = (x374000_2.set (x42_2 : Int).toNat (ji44)) := ⟨_, rfl⟩
       replace H : (standbylaw56_PlannerImproves.l0 k2 l1_1 (l1_1.length : Int) (wrap64 (x42_2 + 1)) l0_0 l0_1 a0_2 a0_3 a0_4 l1_0 l1_1 a1_2 y382 x374001_2 a0_2 a0_3 a0_4) = some r := by first | (rw [hy382]; with_reducible exact H) | (have H2_ := (Option.bind_some _ _).symm.trans H; rw [hy382]; with_reducible exact H2_) | (have H2_ := (Option.bind_some _ _).symm.trans H; with_reducible exact H2_) | with_reducible exact H | (rw [hy382]; exact H) | exact H
       have Ny382 := Aside0.mk hy382
       clear hy382
       have H' := Aside0.mk H
       clear H
       have p380 : 0 ≤ (x42_2 : Int) := of_decide_eq_true (by first | (with_reducible assumption) | assumption)
       have q380 : x42_2 < (l1_1.length : Int) := of_decide_eq_true (by first | (with_reducible assumption) | assumption)
       obtain ⟨ad380, e380, hx380_0⟩ := Kd.at_int HR1_1.out x42_2 p380 q380
       cases e380
       replace hx380_0 := (HB.out.cell (World.block_lt_of_cell? w _ hx380_0)).trans hx380_0
       replace p380 := eq_true p380
       replace q380 := eq_true q380
       have hnb46 := NB373_367.out
       have hnc46 := NB367_373.out
       have hnb47 := NB373_368.out
       have hnc47 := NB368_373.out
       have hcz48_0 : wr.cell? ⟨gb373, 0, none⟩ = some (u374000) := (blk_cell BK373.out 0).trans rfl
       have hcz48_1 : wr.cell? ⟨gb373, 1, none⟩ = some (u374001) := (blk_cell BK373.out 1).trans rfl
       have hcz48_2 : wr.cell? ⟨gb373, 2, none⟩ = some (.int .i64 a0_2) := (blk_cell BK373.out 2).trans rfl
       have hcz48_3 : wr.cell? ⟨gb373, 3, none⟩ = some (.int .i64 a0_3) := (blk_cell BK373.out 3).trans rfl
       have hcz48_4 : wr.cell? ⟨gb373, 4, none⟩ = some (.int .i64 a0_4) := (blk_cell BK373.out 4).trans rfl
       have hfz48_0 := blk_frozen BK373.out 0
       have hfz48_1 := blk_frozen BK373.out 1
       have hfz48_2 := blk_frozen BK373.out 2
       have hfz48_3 := blk_frozen BK373.out 3
       have hfz48_4 := blk_frozen BK373.out 4
       obtain ⟨Ao49, co49, eo49⟩ := Kd.R_slice HO_374000.out
       subst eo49
       try go_wp2
       have n0_ := Aside0.mk (Kd.R_drew HO_374000.out)
       have n1_ := Aside0.mk (Kd.R_drew HO_374001.out)
       have n2_ := Aside0.mk (blk_drew BK367.out)
       have n3_ := Aside0.mk (blk_drew BK368.out)
       have n4_ := Aside0.mk (blk_drew BK373.out)
       have n5_ := Aside0.mk (below_drew1 HB.out)
       clear HO_374000 HO_374001 BK367 BK368 BK373 HB
       have HO_374000 := n0_
       have HO_374001 := n1_
       have BK367 := n2_
       have BK368 := n3_
       have BK373 := n4_
       have HB := n5_
       clear n0_ n1_ n2_ n3_ n4_ n5_
       have p381 : 0 ≤ (x42_2 : Int) := of_decide_eq_true (by first | (with_reducible assumption) | assumption)
       have q381 : x42_2 < (x374000_2.length : Int) := of_decide_eq_true (by first | (with_reducible assumption) | assumption)
       obtain ⟨ad381, e381, hx381_0⟩ := Kd.at_int (Kd.R_reads' HO_374000.out).2.2 x42_2 p381 q381
       cases e381
       replace p381 := eq_true p381
       replace q381 := eq_true q381
       have p45 : 0 ≤ (x42_2 : Int) := of_decide_eq_true (by first | (with_reducible assumption) | assumption)
       have q45 : (x42_2 : Int) < ((x374000_2.length : Int) : Int) := of_decide_eq_true (by first | (with_reducible assumption) | assumption)
       obtain ⟨go45, co45, eo45, gb45, gl45, cl45, HG45⟩ := Kd.R_form HO_374000.out (by omega)
       (first | cases eo45 | (injection eo45 with ea_ en_ ec_; (first | subst ea_ | (injection ea_ with ea_; subst ea_)); subst ec_; clear en_))
       have GB45 := Aside0.mk gb45
       have GG45 := Aside0.mk HG45
       clear gb45 gl45 HG45
       (first | simp only [add_plain] at hx381_0 | skip)
       obtain ⟨hx45_0, hf45_0⟩ := Kd.R_celln 0 HO_374000.out (x42_2 : Int) p45 q45
       replace p45 := eq_true p45
       replace q45 := eq_true q45
       have HP51 := Kd.R_putn HO_374000.out (x42_2 : Int) ji44
       rw [← Ny382.out] at HP51
       have HQ51 := Aside0.mk HP51
       clear HP51
       refine start_ (n := 15) (S := fun w' => w'.cell? ⟨gb373, 0, none⟩ = some (.slice (some ⟨go45, 0, none⟩) x374000_2.length co49) ∧ w'.cell? ⟨gb373, 1, none⟩ = some (u374001) ∧ w'.cell? ⟨gb373, 2, none⟩ = some (.int .i64 a0_2) ∧ w'.cell? ⟨gb373, 3, none⟩ = some (.int .i64 a0_3) ∧ w'.cell? ⟨gb373, 4, none⟩ = some (.int .i64 a0_4) ∧ w'.cell? ⟨go45, (x42_2).toNat, none⟩ = some (.int .i64 (rd x374000_2 x42_2))) (ds := [14]) #[false, false, false, false, false, false, false, false, false, false, false, false, false, false, false] (by kernel_rfl) rfl rfl ⟨(blk_cell BK373.out 0).trans rfl, (blk_cell BK373.out 1).trans rfl, (blk_cell BK373.out 2).trans rfl, (blk_cell BK373.out 3).trans rfl, (blk_cell BK373.out 4).trans rfl, hx381_0⟩ (fun hHeld => ?_); refine with_tabW standbylaw56_PlannerImproves.tab9 standbylaw56_PlannerImproves.bits9 (fun HT_ HW_ => ?_)
       generalize wr.drew = w50 at HO_374000 HO_374001 BK367 BK368 BK373 HB GG45 HQ51 hf45_0 hx381_0 hx45_0 hHeld ⊢
       refine pS (i := 0) (N := some 52) #[true, false, false, false, false, false, false, false, false, false, false, false, false, false, false] rfl rfl HT_.out ?_
       refine pS (i := 2) (N := some 54) #[true, false, true, false, false, false, false, false, false, false, false, false, false, false, false] rfl rfl HT_.out ?_
       refine pS (i := 3) (N := some 55) #[true, false, true, true, false, false, false, false, false, false, false, false, false, false, false] rfl rfl HT_.out ?_
       refine pS (i := 5) (N := some 57) #[true, false, true, true, false, true, false, false, false, false, false, false, false, false, false] rfl rfl HT_.out ?_
       refine pS (i := 8) (N := some 60) #[true, false, true, true, false, true, false, false, true, false, false, false, false, false, false] rfl rfl HT_.out ?_
       refine pS (i := 9) (N := some 61) #[true, false, true, true, false, true, false, false, true, true, false, false, false, false, false] rfl rfl HT_.out ?_
       refine pS (i := 10) (N := some 62) #[true, false, true, true, false, true, false, false, true, true, true, false, false, false, false] rfl rfl HT_.out ?_
       refine take_ (i := 1) (N := some 53) (v := ?_) (a' := ?_) #[true, true, true, true, false, true, false, false, true, true, true, false, false, false, false] rfl rfl (take_ofW HT_.out HW_.out (by kernel_rfl)) (fun _ _ _ h => h) (Or.inl ⟨by rfl, ?_⟩) hHeld ?_ ?_; rotate_left
       ·rintro w' ⟨s0, s1, s2, s3, s4, s5⟩
        go_simp
        with_reducible rfl
       rotate_left
       ·simp only [Act.put, List.setIfInBounds_toArray, List.set_cons_zero, List.set_cons_succ, i64_w, i32_w]
        rfl
       refine take_ (i := 4) (N := some 56) (v := ?_) (a' := ?_) #[true, true, true, true, true, true, false, false, true, true, true, false, false, false, false] rfl rfl (take_ofW HT_.out HW_.out (by kernel_rfl)) (fun _ _ _ h => h) (Or.inl ⟨by rfl, ?_⟩) hHeld ?_ ?_; rotate_left
       ·rintro w' ⟨s0, s1, s2, s3, s4, s5⟩
        go_simp
        with_reducible rfl
       rotate_left
       ·simp only [Act.put, List.setIfInBounds_toArray, List.set_cons_zero, List.set_cons_succ, i64_w, i32_w]
        rfl
       refine pS (i := 6) (N := some 58) #[true, true, true, true, true, true, true, false, true, true, true, false, false, false, false] rfl rfl HT_.out ?_
       refine take_ (i := 7) (N := some 59) (v := ?_) (a' := ?_) #[true, true, true, true, true, true, true, true, true, true, true, false, false, false, false] rfl rfl (take_ofW HT_.out HW_.out (by kernel_rfl)) (fun _ _ _ h => h) (Or.inl ⟨by rfl, ?_⟩) hHeld ?_ ?_; rotate_left
       ·rintro w' ⟨s0, s1, s2, s3, s4, s5⟩
        go_simp
        with_reducible rfl
       rotate_left
       ·simp only [Act.put, List.setIfInBounds_toArray, List.set_cons_zero, List.set_cons_succ, i64_w, i32_w]
        rfl
       refine pS (i := 11) (N := some 63) #[true, true, true, true, true, true, true, true, true, true, true, true, false, false, false] rfl rfl HT_.out ?_
       refine pS (i := 12) (N := some 64) #[true, true, true, true, true, true, true, true, true, true, true, true, true, false, false] rfl rfl HT_.out ?_
       refine pS (i := 13) (N := some 65) #[true, true, true, true, true, true, true, true, true, true, true, true, true, true, false] rfl rfl HT_.out ?_
       refine last_ (i := 14) (N := none) #[true, true, true, true, true, true, true, true, true, true, true, true, true, true, true] rfl rfl (one_of HT_.out (by kernel_rfl)) (by decide) (fun K hK => ?_)
       refine skip_ (w1 := ?_) (by rfl) rfl ?_ ?_; rotate_left
       ·go_simp
        rfl
       refine hK.out _ _ ?_; clear hK K
       refine done_ (done_of HT_.out (by kernel_rfl)) ?_
       try go_wp2
       go_roundg k2
       case measure => have := HJ2.out; have := HK2.out; omega
       case rel => exact ⟨(wrap64 (x42_2 + 1)), (y382), (x374001_2), (.slice (some ⟨go45, 0, none⟩) x374000_2.length co49), (u374001), (by first | rfl | (simp; done) | (simp [*]; done)), H', ⟨by have := HJ2.out; have := HK2.out; omega⟩, ⟨by exact qR HQ51.out⟩, ⟨by exact qR (Kd.R_mono (Kd.R_far (p := ⟨go45, (x42_2 : Int).toNat, none⟩) (Kd.R_mono HO_374001.out (fun k_ hk => (⟨hk, fun e_ => hk (by rw [e_]; rfl)⟩ : _ ∧ k_ ≠ go45))) (fun _ hk => hk.2) (.int .i64 ji44)) (fun _ hk => hk.1))⟩, ⟨by (with_reducible repeat (first | refine blk_drewN ?_ _ | refine blk_drew ?_ | refine blk_alloc ?_ _)); refine blk_far ?_ (by have h_ := Kd.R_ne HO_374000.out BK367.out (by decide); intro e_; exact h_ (by rw [e_]; rfl)) _; exact qB BK367.out⟩, ⟨by (with_reducible repeat (first | refine blk_drewN ?_ _ | refine blk_drew ?_ | refine blk_alloc ?_ _)); refine blk_far ?_ (by have h_ := Kd.R_ne HO_374000.out BK368.out (by decide); intro e_; exact h_ (by rw [e_]; rfl)) _; exact qB BK368.out⟩, ⟨by (with_reducible repeat (first | refine blk_drewN ?_ _ | refine blk_drew ?_ | refine blk_alloc ?_ _)); refine blk_far ?_ (by have h_ := Kd.R_ne HO_374000.out BK373.out (by decide); intro e_; exact h_ (by rw [e_]; rfl)) _; exact qB BK373.out⟩, ⟨by repeat (first | (with_reducible first | exact HB.out | apply below_alloc | apply pw_below_drewN | apply below_drew1 | refine below_set ?_ GB45.out | refine below_set ?_ GE367.out | refine below_set ?_ GE368.out | refine below_set ?_ GE373.out) | exact HB.out)⟩⟩
      ·rw [if_neg c40] at H
       have c40b0 : decide (x42_2 < (l1_1.length : Int)) = false := decide_eq_false c40
       clear c40
       have H' := Aside0.mk H
       clear H
       have hnb56 := NB368_367.out
       have hnc56 := NB367_368.out
       have hnb57 := NB368_373.out
       have hnc57 := NB373_368.out
       have hcz58_0 : wr.cell? ⟨gb368, 0, none⟩ = some (.slice A1_0 l1_0.length c1_0) := (blk_cell BK368.out 0).trans rfl
       have hcz58_1 : wr.cell? ⟨gb368, 1, none⟩ = some (.slice A1_1 l1_1.length c1_1) := (blk_cell BK368.out 1).trans rfl
       have hcz58_2 : wr.cell? ⟨gb368, 2, none⟩ = some (.int .u8 a1_2) := (blk_cell BK368.out 2).trans rfl
       have hfz58_0 := blk_frozen BK368.out 0
       have hfz58_1 := blk_frozen BK368.out 1
       have hfz58_2 := blk_frozen BK368.out 2
       go_wp2
       go_loopg [70] k2 (fun kq v70 w' => ∃ (x70_3 : Int) (x374000_3 : List Int) (x374001_3 : List Int) (u374000 : Value) (u374001 : Value), v70 = .int .i64 x70_3 ∧ Aside0 (standbylaw56_PlannerImproves.l1 kq l1_0 (l1_0.length : Int) x70_3 l0_0 l0_1 a0_2 a0_3 a0_4 l1_0 l1_1 a1_2 x374000_3 x374001_3 a0_2 a0_3 a0_4 = some r) ∧ Aside0 (kq ≤ k2) ∧ Aside0 (Kd.R (Kd.int .i64) 3 w' w.heap.size (fun k_ => some k_ ≠ (u374001 : Value).ownBlock) u374000 x374000_3) ∧ Aside0 (Kd.R (Kd.int .i64) 3 w' w.heap.size (fun k_ => some k_ ≠ (u374000 : Value).ownBlock) u374001 x374001_3) ∧ Aside0 (w'.heap[gb367]? = some (.cells #[(.slice A0_0 l0_0.length c0_0), (.slice A0_1 l0_1.length c0_1), .int .i64 a0_2, .int .i64 a0_3, .int .i64 a0_4] 24 (0, 0))) ∧ Aside0 (w'.heap[gb368]? = some (.cells #[(.slice A1_0 l1_0.length c1_0), (.slice A1_1 l1_1.length c1_1), .int .u8 a1_2] 49 (0, 0))) ∧ Aside0 (w'.heap[gb373]? = some (.cells #[u374000, u374001, .int .i64 a0_2, .int .i64 a0_3, .int .i64 a0_4] 24 (0, 0))) ∧ Aside0 (Below w.heap.size w w'))
       case atStart => exact ⟨(0), (x374000_2), (x374001_2), (u374000), (u374001), (by first | rfl | (simp; done) | (simp [*]; done)), H', ⟨Nat.le_refl _⟩, ⟨by exact qR HO_374000.out⟩, ⟨by exact qR HO_374001.out⟩, ⟨by exact qB BK367.out⟩, ⟨by exact qB BK368.out⟩, ⟨by exact qB BK373.out⟩, ⟨by repeat (first | (with_reducible first | exact HB.out | apply below_alloc | apply pw_below_drewN | apply below_drew1 | refine below_set ?_ GE367.out | refine below_set ?_ GE368.out | refine below_set ?_ GE373.out) | exact HB.out)⟩⟩
       case round =>
        clear H'
        try clear c1
        try clear c2
        try clear p2
        try clear p3
        try clear q3
        try clear hx3
        try clear c4
        try clear p4
        try clear q4
        try clear hx4
        try clear hf4
        try clear c5
        try clear p6
        try clear c7
        try clear c8
        try clear c8b0
        try clear c8b1
        try clear c9
        try clear c12
        try clear c13
        try clear c17
        try clear c20
        try clear c23
        try clear c25
        try clear c26
        try clear c28
        try clear c29
        try clear p38
        try clear q38
        try clear hx38
        try clear c40
        try clear c40b0
        try clear c41
        try clear c41b0
        try clear c42
        try clear c42b0
        try clear c43
        try clear c43b0
        try clear p45
        try clear q45
        try clear hx45
        try clear hf45
        try clear c46
        try clear c47
        try clear c52
        try clear c53
        try clear c56
        try clear c57
        try clear hcz10_0
        try clear hcz10_1
        try clear hcz10_2
        try clear hcz10_3
        try clear hcz10_4
        try clear hcz12_0
        try clear hcz12_1
        try clear hcz12_2
        try clear hcz14_0
        try clear hcz14_1
        try clear hcz14_2
        try clear hcz14_3
        try clear hcz14_4
        try clear hcz16_0
        try clear hcz16_1
        try clear hcz16_2
        try clear hcz18_0
        try clear hcz18_1
        try clear hcz18_2
        try clear hcz18_3
        try clear hcz18_4
        try clear hcz26_0
        try clear hcz26_1
        try clear hcz26_2
        try clear hcz26_3
        try clear hcz26_4
        try clear hcz30_0
        try clear hcz30_1
        try clear hcz30_2
        try clear hcz30_3
        try clear hcz30_4
        try clear hcz39_0
        try clear hcz39_1
        try clear hcz39_2
        try clear hcz48_0
        try clear hcz48_1
        try clear hcz48_2
        try clear hcz48_3
        try clear hcz48_4
        try clear hcz54_0
        try clear hcz54_1
        try clear hcz54_2
        try clear hcz54_3
        try clear hcz54_4
        try clear hcz58_0
        try clear hcz58_1
        try clear hcz58_2
        try clear hfz10_0
        try clear hfz10_1
        try clear hfz10_2
        try clear hfz10_3
        try clear hfz10_4
        try clear hfz12_0
        try clear hfz12_1
        try clear hfz12_2
        try clear hfz14_0
        try clear hfz14_1
        try clear hfz14_2
        try clear hfz14_3
        try clear hfz14_4
        try clear hfz16_0
        try clear hfz16_1
        try clear hfz16_2
        try clear hfz18_0
        try clear hfz18_1
        try clear hfz18_2
        try clear hfz18_3
        try clear hfz18_4
        try clear hfz26_0
        try clear hfz26_1
        try clear hfz26_2
        try clear hfz26_3
        try clear hfz26_4
        try clear hfz30_0
        try clear hfz30_1
        try clear hfz30_2
        try clear hfz30_3
        try clear hfz30_4
        try clear hfz39_0
        try clear hfz39_1
        try clear hfz39_2
        try clear hfz48_0
        try clear hfz48_1
        try clear hfz48_2
        try clear hfz48_3
        try clear hfz48_4
        try clear hfz54_0
        try clear hfz54_1
        try clear hfz54_2
        try clear hfz54_3
        try clear hfz54_4
        try clear hfz58_0
        try clear hfz58_1
        try clear hfz58_2
        try clear hx380_0
        try clear hx381_0
        try clear hx45_0
        try clear p2
        try clear p380
        try clear p381
        try clear p45
        try clear q380
        try clear q381
        try clear q45
        obtain ⟨x70_3, x374000_3, x374001_3, u374000, u374001, rfl, HA, HK3, HO_374000, HO_374001, BK367, BK368, BK373, HB⟩ := hrel
        cases gk with
        | zero => exact absurd HA.out (by simp [standbylaw56_PlannerImproves.l1])
        | succ k3 =>
         have H := HA.out
         clear HA
         simp only [standbylaw56_PlannerImproves.l1] at H
         by_cases c59 : x70_3 < (l1_0.length : Int)
         ·rw [if_pos c59] at H
          have c59b0 : decide (x70_3 < (l1_0.length : Int)) = true := decide_eq_true c59
          clear c59
          by_cases c60 : 0 ≤ x70_3
          case neg =>
           rw [if_neg c60] at H
           exact absurd H (by simp)
          rw [if_pos c60] at H
          have c60b0 : decide (0 ≤ x70_3) = true := decide_eq_true c60
          clear c60
          by_cases c61 : x70_3 < (l1_0.length : Int)
          case neg =>
           rw [if_neg c61] at H
           exact absurd H (by simp)
          rw [if_pos c61] at H
          have c61b0 : decide (x70_3 < (l1_0.length : Int)) = true := decide_eq_true c61
          clear c61
          by_cases c62 : x70_3 < (x374001_3.length : Int)
          case neg =>
           rw [if_neg c62] at H
           have c62b0 : decide (x70_3 < (x374001_3.length : Int)) = false := decide_eq_false c62
           clear c62
           have H' := Aside0.mk H
           clear H
           have p383 : 0 ≤ (x70_3 : Int) := of_decide_eq_true (by first | (with_reducible assumption) | assumption)
           have q383 : x70_3 < (l1_0.length : Int) := of_decide_eq_true (by first | (with_reducible assumption) | assumption)
           obtain ⟨ad383, e383, hx383_0⟩ := Kd.at_int HR1_0.out x70_3 p383 q383
           cases e383
           replace hx383_0 := (HB.out.cell (World.block_lt_of_cell? w _ hx383_0)).trans hx383_0
           replace p383 := eq_true p383
           replace q383 := eq_true q383
           have hnb70 := NB373_367.out
           have hnc70 := NB367_373.out
           have hnb71 := NB373_368.out
           have hnc71 := NB368_373.out
           have hcz72_0 : wr.cell? ⟨gb373, 0, none⟩ = some (u374000) := (blk_cell BK373.out 0).trans rfl
           have hcz72_1 : wr.cell? ⟨gb373, 1, none⟩ = some (u374001) := (blk_cell BK373.out 1).trans rfl
           have hcz72_2 : wr.cell? ⟨gb373, 2, none⟩ = some (.int .i64 a0_2) := (blk_cell BK373.out 2).trans rfl
           have hcz72_3 : wr.cell? ⟨gb373, 3, none⟩ = some (.int .i64 a0_3) := (blk_cell BK373.out 3).trans rfl
           have hcz72_4 : wr.cell? ⟨gb373, 4, none⟩ = some (.int .i64 a0_4) := (blk_cell BK373.out 4).trans rfl
           have hfz72_0 := blk_frozen BK373.out 0
           have hfz72_1 := blk_frozen BK373.out 1
           have hfz72_2 := blk_frozen BK373.out 2
           have hfz72_3 := blk_frozen BK373.out 3
           have hfz72_4 := blk_frozen BK373.out 4
           obtain ⟨Ao73, co73, eo73⟩ := Kd.R_slice HO_374001.out
           subst eo73
           go_wp2
           go_roundg k3
           case measure => have := HJ2.out; have := HK2.out; have := HK3.out; omega
           case rel => exact ⟨(wrap64 (x70_3 + 1)), (x374000_3), (x374001_3), (u374000), (.slice Ao73 x374001_3.length co73), (by first | rfl | (simp; done) | (simp [*]; done)), H', ⟨by have := HJ2.out; have := HK2.out; have := HK3.out; omega⟩, ⟨by exact qR HO_374000.out⟩, ⟨by exact qR HO_374001.out⟩, ⟨by exact qB BK367.out⟩, ⟨by exact qB BK368.out⟩, ⟨by exact qB BK373.out⟩, ⟨by repeat (first | (with_reducible first | exact HB.out | apply below_alloc | apply pw_below_drewN | apply below_drew1 | refine below_set ?_ GE367.out | refine below_set ?_ GE368.out | refine below_set ?_ GE373.out) | exact HB.out)⟩⟩
          rw [if_pos c62] at H
          have c62b0 : decide (x70_3 < (x374001_3.length : Int)) = true := decide_eq_true c62
          clear c62
          obtain ⟨y385, hy385⟩ : ∃ y_ : List Int, y_ = (x374001_3.set (x70_3 : Int).toNat (wrap64 ((rd x374001_3 x70_3) + (Int.tmod (wrap64 (rd l1_0 x70_3)) 4)))) := ⟨_, rfl⟩
          replace H : (standbylaw56_PlannerImproves.l1 k3 l1_0 (l1_0.length : Int) (wrap64 (x70_3 + 1)) l0_0 l0_1 a0_2 a0_3 a0_4 l1_0 l1_1 a1_2 x374000_3 y385 a0_2 a0_3 a0_4) = some r := by first | (rw [hy385]; with_reducible exact H) | (have H2_ := (Option.bind_some _ _).symm.trans H; rw [hy385]; with_reducible exact H2_) | (have H2_ := (Option.bind_some _ _).symm.trans H; with_reducible exact H2_) | with_reducible exact H | (rw [hy385]; exact H) | exact H
          have Ny385 := Aside0.mk hy385
          clear hy385
          have H' := Aside0.mk H
          clear H
          have p383 : 0 ≤ (x70_3 : Int) := of_decide_eq_true (by first | (with_reducible assumption) | assumption)
          have q383 : x70_3 < (l1_0.length : Int) := of_decide_eq_true (by first | (with_reducible assumption) | assumption)
          obtain ⟨ad383, e383, hx383_0⟩ := Kd.at_int HR1_0.out x70_3 p383 q383
          cases e383
          replace hx383_0 := (HB.out.cell (World.block_lt_of_cell? w _ hx383_0)).trans hx383_0
          replace p383 := eq_true p383
          replace q383 := eq_true q383
          have hnb64 := NB373_367.out
          have hnc64 := NB367_373.out
          have hnb65 := NB373_368.out
          have hnc65 := NB368_373.out
          have hcz66_0 : wr.cell? ⟨gb373, 0, none⟩ = some (u374000) := (blk_cell BK373.out 0).trans rfl
          have hcz66_1 : wr.cell? ⟨gb373, 1, none⟩ = some (u374001) := (blk_cell BK373.out 1).trans rfl
          have hcz66_2 : wr.cell? ⟨gb373, 2, none⟩ = some (.int .i64 a0_2) := (blk_cell BK373.out 2).trans rfl
          have hcz66_3 : wr.cell? ⟨gb373, 3, none⟩ = some (.int .i64 a0_3) := (blk_cell BK373.out 3).trans rfl
          have hcz66_4 : wr.cell? ⟨gb373, 4, none⟩ = some (.int .i64 a0_4) := (blk_cell BK373.out 4).trans rfl
          have hfz66_0 := blk_frozen BK373.out 0
          have hfz66_1 := blk_frozen BK373.out 1
          have hfz66_2 := blk_frozen BK373.out 2
          have hfz66_3 := blk_frozen BK373.out 3
          have hfz66_4 := blk_frozen BK373.out 4
          obtain ⟨Ao67, co67, eo67⟩ := Kd.R_slice HO_374001.out
          subst eo67
          have p384 : 0 ≤ (x70_3 : Int) := of_decide_eq_true (by first | (with_reducible assumption) | assumption)
          have q384 : x70_3 < (x374001_3.length : Int) := of_decide_eq_true (by first | (with_reducible assumption) | assumption)
          obtain ⟨ad384, e384, hx384_0⟩ := Kd.at_int (Kd.R_reads' HO_374001.out).2.2 x70_3 p384 q384
          cases e384
          replace p384 := eq_true p384
          replace q384 := eq_true q384
          have p63 : 0 ≤ (x70_3 : Int) := of_decide_eq_true (by first | (with_reducible assumption) | assumption)
          have q63 : (x70_3 : Int) < ((x374001_3.length : Int) : Int) := of_decide_eq_true (by first | (with_reducible assumption) | assumption)
          obtain ⟨go63, co63, eo63, gb63, gl63, cl63, HG63⟩ := Kd.R_form HO_374001.out (by omega)
          (first | cases eo63 | (injection eo63 with ea_ en_ ec_; (first | subst ea_ | (injection ea_ with ea_; subst ea_)); subst ec_; clear en_))
          have GB63 := Aside0.mk gb63
          have GG63 := Aside0.mk HG63
          clear gb63 gl63 HG63
          (first | simp only [add_plain] at hx384_0 | skip)
          obtain ⟨hx63_0, hf63_0⟩ := Kd.R_celln 0 HO_374001.out (x70_3 : Int) p63 q63
          replace p63 := eq_true p63
          replace q63 := eq_true q63
          have HP68 := Kd.R_putg HO_374001.out (x70_3 : Int) (wrap64 ((rd x374001_3 x70_3) + (Int.tmod (wrap64 (rd l1_0 x70_3)) 4)))
          go_wp2_with (first | ((with_reducible refine gate_store (t := 3) (p := 89) rfl ?_); refine store_event (t := 3) (p := 89) (v := ?vo_w69) (w1 := (wr.setCell ⟨go63, (x70_3 : Int).toNat, none⟩ (.int .i64 (wrap64 ((rd x374001_3 x70_3) + (Int.tmod (wrap64 (rd l1_0 x70_3)) 4)))))) ?hg ?ho ?hn ?hr ?_; (case ho => rfl); (case hg => rfl); (case hn => rfl); (case hr => first | (go_simp; done) | (go_simp; rfl)); intro w69 hw; have hg : wr.grownBy w69 (some go63) := (by rw [hw]; exact HP68.2); have hp_ : Kd.R (Kd.int .i64) 3 w69 w.heap.size (fun k_ => some k_ ≠ (u374000 : Value).ownBlock) (.slice (some ⟨go63, 0, none⟩) x374001_3.length co67) y385 := (by rw [hw, Ny385.out]; exact HP68.1); clear HP68; have n0_ := Aside0.mk (Kd.R_after (v := (.slice (some ⟨go63, 0, none⟩) x374001_3.length co67)) (v1 := (.slice (some ⟨go63, 0, none⟩) x374001_3.length co67)) (ok := (fun _ => True)) (qR (Kd.R_mono HO_374000.out (fun _ hk => ⟨trivial, hk⟩))) hg (.inl rfl)); have n1_ := Aside0.mk (hp_); have n2_ := Aside0.mk (blk_grown (qB BK367.out) hg (Kd.R_ne HO_374001.out BK367.out (by decide))); have n3_ := Aside0.mk (blk_grown (qB BK368.out) hg (Kd.R_ne HO_374001.out BK368.out (by decide))); have n4_ := Aside0.mk (blk_grown (qB BK373.out) hg (Kd.R_ne HO_374001.out BK373.out (by decide))); have n5_ := Aside0.mk ((by rw [hw]; exact below_set (HB.out) GB63.out : Below w.heap.size w w69)); clear HO_374000 HO_374001 BK367 BK368 BK373 HB; have HO_374000 := n0_; have HO_374001 := n1_; have BK367 := n2_; have BK368 := n3_; have BK373 := n4_; have HB := n5_; clear n0_ n1_ n2_ n3_ n4_ n5_ hg hw hp_))
          go_roundg k3
          case measure => have := HJ2.out; have := HK2.out; have := HK3.out; omega
          case rel => exact ⟨(wrap64 (x70_3 + 1)), (x374000_3), (y385), (u374000), (.slice (some ⟨go63, 0, none⟩) x374001_3.length co67), (by first | rfl | (simp; done) | (simp [*]; done)), H', ⟨by have := HJ2.out; have := HK2.out; have := HK3.out; omega⟩, ⟨by exact qR (Kd.R_mono HO_374000.out (fun _ hk => hk.2))⟩, ⟨by exact qR HO_374001.out⟩, ⟨by exact qB BK367.out⟩, ⟨by exact qB BK368.out⟩, ⟨by exact qB BK373.out⟩, ⟨by repeat (first | (with_reducible first | exact HB.out | apply below_alloc | apply pw_below_drewN | apply below_drew1 | refine below_set ?_ GE367.out | refine below_set ?_ GE368.out | refine below_set ?_ GE373.out) | exact HB.out)⟩⟩
         ·rw [if_neg c59] at H
          have c59b0 : decide (x70_3 < (l1_0.length : Int)) = false := decide_eq_false c59
          clear c59
          obtain ⟨ji74, hji74⟩ : ∃ j_ : Int, (mx 0 (wrap64 (a0_3 - (Int.tmod (wrap64 (a1_2)) 4)))) = j_ := ⟨_, rfl⟩
          replace H : ((planner_Plan.f k3 l0_0 l0_1 a0_2 a0_3 a0_4).bind fun bt386 => ((planner_Plan.f k3 x374000_3 x374001_3 a0_2 (ji74) a0_4).bind fun bt401 => (if bt386.2.2.2.2.2 = 0 then (if bt401.2.2.2.2.2 = 0 then (if bt401.2.2.2.2.1 ≤ bt386.2.2.2.2.1 then ((standbylaw56_awake.f).bind fun t416 => (some t416)) else (none)) else (none)) else ((standbylaw56_awake.f).bind fun t417 => (some t417))))) = some r := by first | (rw [hji74] at H; exact H) | (simp only [hji74] at H ⊢; exact H)
          have hji74_ : (if 0 < (wrap64 (a0_3 - (Int.tmod (wrap64 (a1_2)) 4))) then (wrap64 (a0_3 - (Int.tmod (wrap64 (a1_2)) 4))) else 0) = ji74 := hji74
          replace H := Option.bind_eq_some_iff.mp H
          obtain ⟨⟨t386, t389, t392, t395, t398, t399⟩, A750, H⟩ := H
          replace H : ((planner_Plan.f k3 x374000_3 x374001_3 a0_2 (ji74) a0_4).bind fun bt401 => (if t399 = 0 then (if bt401.2.2.2.2.2 = 0 then (if bt401.2.2.2.2.1 ≤ t398 then ((standbylaw56_awake.f).bind fun t416 => (some t416)) else (none)) else (none)) else ((standbylaw56_awake.f).bind fun t417 => (some t417)))) = some r := H
          have A75 := Aside0.mk A750
          clear A750
          replace H := Option.bind_eq_some_iff.mp H
          obtain ⟨⟨t401, t404, t407, t410, t413, t414⟩, A760, H⟩ := H
          replace H : (if t399 = 0 then (if t414 = 0 then (if t413 ≤ t398 then ((standbylaw56_awake.f).bind fun t416 => (some t416)) else (none)) else (none)) else ((standbylaw56_awake.f).bind fun t417 => (some t417))) = some r := H
          have A76 := Aside0.mk A760
          clear A760
          by_cases c77 : t399 = 0
          case neg =>
           rw [if_neg c77] at H
           have c77b0 : (t399 == 0) = false := beq_eq_false_iff_ne.mpr c77
           have c77b1 : (t399 != 0) = true := bne_iff_ne.mpr c77
           replace H := Option.bind_eq_some_iff.mp H
           obtain ⟨t417, A1130, H⟩ := H
           replace H : (some t417) = some r := H
           have A113 := Aside0.mk A1130
           clear A1130
           obtain rfl := Option.some.inj H
           have hnb114 := NB367_368.out
           have hnc114 := NB368_367.out
           have hnb115 := NB367_373.out
           have hnc115 := NB373_367.out
           have hcz116_0 : wr.cell? ⟨gb367, 0, none⟩ = some (.slice A0_0 l0_0.length c0_0) := (blk_cell BK367.out 0).trans rfl
           have hcz116_1 : wr.cell? ⟨gb367, 1, none⟩ = some (.slice A0_1 l0_1.length c0_1) := (blk_cell BK367.out 1).trans rfl
           have hcz116_2 : wr.cell? ⟨gb367, 2, none⟩ = some (.int .i64 a0_2) := (blk_cell BK367.out 2).trans rfl
           have hcz116_3 : wr.cell? ⟨gb367, 3, none⟩ = some (.int .i64 a0_3) := (blk_cell BK367.out 3).trans rfl
           have hcz116_4 : wr.cell? ⟨gb367, 4, none⟩ = some (.int .i64 a0_4) := (blk_cell BK367.out 4).trans rfl
           have hfz116_0 := blk_frozen BK367.out 0
           have hfz116_1 := blk_frozen BK367.out 1
           have hfz116_2 := blk_frozen BK367.out 2
           have hfz116_3 := blk_frozen BK367.out 3
           have hfz116_4 := blk_frozen BK367.out 4
           have hnb117 := NB368_373.out
           have hnc117 := NB373_368.out
           have hcz118_0 : wr.cell? ⟨gb368, 0, none⟩ = some (.slice A1_0 l1_0.length c1_0) := (blk_cell BK368.out 0).trans rfl
           have hcz118_1 : wr.cell? ⟨gb368, 1, none⟩ = some (.slice A1_1 l1_1.length c1_1) := (blk_cell BK368.out 1).trans rfl
           have hcz118_2 : wr.cell? ⟨gb368, 2, none⟩ = some (.int .u8 a1_2) := (blk_cell BK368.out 2).trans rfl
           have hfz118_0 := blk_frozen BK368.out 0
           have hfz118_1 := blk_frozen BK368.out 1
           have hfz118_2 := blk_frozen BK368.out 2
           have hcz119_0 : wr.cell? ⟨gb373, 0, none⟩ = some (u374000) := (blk_cell BK373.out 0).trans rfl
           have hcz119_1 : wr.cell? ⟨gb373, 1, none⟩ = some (u374001) := (blk_cell BK373.out 1).trans rfl
           have hcz119_2 : wr.cell? ⟨gb373, 2, none⟩ = some (.int .i64 a0_2) := (blk_cell BK373.out 2).trans rfl
           have hcz119_3 : wr.cell? ⟨gb373, 3, none⟩ = some (.int .i64 a0_3) := (blk_cell BK373.out 3).trans rfl
           have hcz119_4 : wr.cell? ⟨gb373, 4, none⟩ = some (.int .i64 a0_4) := (blk_cell BK373.out 4).trans rfl
           have hfz119_0 := blk_frozen BK373.out 0
           have hfz119_1 := blk_frozen BK373.out 1
           have hfz119_2 := blk_frozen BK373.out 2
           have hfz119_3 := blk_frozen BK373.out 3
           have hfz119_4 := blk_frozen BK373.out 4
           go_wp2_with (first | ((with_reducible refine gate_callee (f := 13) rfl ?_); refine goesL_ (some 102) rfl rfl Try.func13 (by kernel_rfl) rfl #[.agg #[.slice A0_0 l0_0.length c0_0, .slice A0_1 l0_1.length c0_1, .int .i64 a0_2, .int .i64 a0_3, .int .i64 a0_4]] rfl (by (try simp only [List.map_toArray, List.map_cons, List.map_nil]); first | done | rfl | (simp only [List.length_drop, List.length_take]; rfl)) ?_; (with_reducible refine (planner_Plan.calls k3 _ _ l0_0 _ _ l0_1 a0_2 a0_3 a0_4 t386 t389 t392 t395 t398 t399 _ ?side1 ?side2 ?side3 ?side4 A75.out).mono ?_); (case side1 => exact Kd.C_below HR0_0.out (qW HB.out)); (case side2 => exact HC0_0.out); (case side3 => exact Kd.C_below HR0_1.out (qW HB.out)); (case side4 => exact HC0_1.out); rintro e w120 ⟨v387, v390, v393, v396, rfl, ho0, ho1, ho2, ho3, hb⟩; refine ⟨_, rfl, ?_⟩; have n0_ := Aside0.mk (Kd.R_mono (Kd.R_told (Kd.R_told (Kd.R_told (Kd.R_told (Kd.R_old (qR (Kd.R_mono (Kd.R_far (p := ⟨gb373, 3, none⟩) (Kd.R_types HO_374000.out BK373.out (by decide)) (fun _ hk => hk.2) (.int .i64 ji74)) (fun _ h_ => h_.1))) hb) (Kd.R_base ho0)) (Kd.R_base ho1)) (Kd.R_base ho2)) (Kd.R_base ho3)) (fun _ h_ => h_.1)); have n1_ := Aside0.mk (Kd.R_mono (Kd.R_told (Kd.R_told (Kd.R_told (Kd.R_told (Kd.R_old (qR (Kd.R_mono (Kd.R_far (p := ⟨gb373, 3, none⟩) (Kd.R_types HO_374001.out BK373.out (by decide)) (fun _ hk => hk.2) (.int .i64 ji74)) (fun _ h_ => h_.1))) hb) (Kd.R_base ho0)) (Kd.R_base ho1)) (Kd.R_base ho2)) (Kd.R_base ho3)) (fun _ h_ => h_.1)); have n2_ := Aside0.mk (Kd.R_lower (Kd.R_new' (Kd.R_new' ho0 (Kd.R_lt (qR (Kd.R_mono (Kd.R_far (p := ⟨gb373, 3, none⟩) (Kd.R_types HO_374000.out BK373.out (by decide)) (fun _ hk => hk.2) (.int .i64 ji74)) (fun _ h_ => h_.1))))) (Kd.R_lt (qR (Kd.R_mono (Kd.R_far (p := ⟨gb373, 3, none⟩) (Kd.R_types HO_374001.out BK373.out (by decide)) (fun _ hk => hk.2) (.int .i64 ji74)) (fun _ h_ => h_.1))))) (below_size (qW HB.out))); have n3_ := Aside0.mk (Kd.R_lower (Kd.R_new' (Kd.R_new' ho1 (Kd.R_lt (qR (Kd.R_mono (Kd.R_far (p := ⟨gb373, 3, none⟩) (Kd.R_types HO_374000.out BK373.out (by decide)) (fun _ hk => hk.2) (.int .i64 ji74)) (fun _ h_ => h_.1))))) (Kd.R_lt (qR (Kd.R_mono (Kd.R_far (p := ⟨gb373, 3, none⟩) (Kd.R_types HO_374001.out BK373.out (by decide)) (fun _ hk => hk.2) (.int .i64 ji74)) (fun _ h_ => h_.1))))) (below_size (qW HB.out))); have n4_ := Aside0.mk (Kd.R_lower (Kd.R_new' (Kd.R_new' ho2 (Kd.R_lt (qR (Kd.R_mono (Kd.R_far (p := ⟨gb373, 3, none⟩) (Kd.R_types HO_374000.out BK373.out (by decide)) (fun _ hk => hk.2) (.int .i64 ji74)) (fun _ h_ => h_.1))))) (Kd.R_lt (qR (Kd.R_mono (Kd.R_far (p := ⟨gb373, 3, none⟩) (Kd.R_types HO_374001.out BK373.out (by decide)) (fun _ hk => hk.2) (.int .i64 ji74)) (fun _ h_ => h_.1))))) (below_size (qW HB.out))); have n5_ := Aside0.mk (Kd.R_lower (Kd.R_new' (Kd.R_new' ho3 (Kd.R_lt (qR (Kd.R_mono (Kd.R_far (p := ⟨gb373, 3, none⟩) (Kd.R_types HO_374000.out BK373.out (by decide)) (fun _ hk => hk.2) (.int .i64 ji74)) (fun _ h_ => h_.1))))) (Kd.R_lt (qR (Kd.R_mono (Kd.R_far (p := ⟨gb373, 3, none⟩) (Kd.R_types HO_374001.out BK373.out (by decide)) (fun _ hk => hk.2) (.int .i64 ji74)) (fun _ h_ => h_.1))))) (below_size (qW HB.out))); have n6_ := Aside0.mk (blk_below (g := gb367) (o := .cells #[.slice A0_0 l0_0.length c0_0, .slice A0_1 l0_1.length c0_1, .int .i64 a0_2, .int .i64 a0_3, .int .i64 a0_4] 24 (0, 0)) (by (with_reducible repeat (first | refine blk_drewN ?_ _ | refine blk_drew ?_ | refine blk_alloc ?_ _)); refine blk_far ?_ NB367_373.out _; exact qB BK367.out) hb); have n7_ := Aside0.mk (blk_below (g := gb368) (o := .cells #[.slice A1_0 l1_0.length c1_0, .slice A1_1 l1_1.length c1_1, .int .u8 a1_2] 49 (0, 0)) (by (with_reducible repeat (first | refine blk_drewN ?_ _ | refine blk_drew ?_ | refine blk_alloc ?_ _)); refine blk_far ?_ NB368_373.out _; exact qB BK368.out) hb); have n8_ := Aside0.mk (blk_below (g := gb373) (o := .cells #[u374000, u374001, .int .i64 a0_2, .int .i64 ji74, .int .i64 a0_4] 24 (0, 0)) (by (with_reducible repeat (first | refine blk_drewN ?_ _ | refine blk_drew ?_ | refine blk_alloc ?_ _)); refine blk_put (cs := #[u374000, u374001, .int .i64 a0_2, .int .i64 a0_3, .int .i64 a0_4]) ?_ 3 _ rfl; exact qB BK373.out) hb); have n9_ := Aside0.mk (below_step (qW HB.out) hb); clear HO_374000 HO_374001 BK367 BK368 BK373 HB; have HO_374000 := n0_; have HO_374001 := n1_; have HO388 := n2_; have HO391 := n3_; have HO394 := n4_; have HO397 := n5_; have BK367 := n6_; have BK368 := n7_; have BK373 := n8_; have HB := n9_; clear n0_ n1_ n2_ n3_ n4_ n5_ n6_ n7_ n8_ n9_; (try clear hb); (try clear hb2); (try clear hk); (try clear hi); (try clear ho0); (try clear ho1); (try clear ho2); (try clear ho3)) | ((with_reducible refine gate_dst (N := 10) rfl ?_); (try (refine gate_guard (by rfl) ?_; dsimp only)); refine box_event ?hg (N := 10) ?hd (cs := #[.slice none 0 0, .slice none 0 0, .slice none 0 0, .slice none 0 0, .int .i64 0]) (t := 28) ?hr ?_; (case hd => rfl); (case hg => rfl); (case hr => first | (go_simp; done) | (go_simp; rfl)); intro gb400 hg w121 hbox hb; have n0_ := Aside0.mk (Kd.R_below (qR HO_374000.out) hb); have n1_ := Aside0.mk (Kd.R_below (qR HO_374001.out) hb); have n2_ := Aside0.mk (Kd.R_below (qR HO388.out) hb); have n3_ := Aside0.mk (Kd.R_below (qR HO391.out) hb); have n4_ := Aside0.mk (Kd.R_below (qR HO394.out) hb); have n5_ := Aside0.mk (Kd.R_below (qR HO397.out) hb); have n6_ := Aside0.mk (blk_below (qB BK367.out) hb); have n7_ := Aside0.mk (blk_below (qB BK368.out) hb); have n8_ := Aside0.mk (blk_below (qB BK373.out) hb); have n9_ := Aside0.mk (below_step (qW HB.out) hb); have n10_ := Aside0.mk (hbox); have n11_ := Aside0.mk ((by rw [hg]; exact (below_size (qW HB.out)) : w.heap.size ≤ gb400)); have n12_ := Aside0.mk ((by rw [hg]; exact (below_size (qW HB.out)) : w.heap.size ≤ gb400)); have n13_ := Aside0.mk ((by rw [hg]; exact Nat.ne_of_lt (blk_lt (qB BK367.out)) : gb367 ≠ gb400)); have n14_ := Aside0.mk ((by rw [hg]; exact Nat.ne_of_gt (blk_lt (qB BK367.out)) : gb400 ≠ gb367)); have n15_ := Aside0.mk ((by rw [hg]; exact Nat.ne_of_lt (blk_lt (qB BK368.out)) : gb368 ≠ gb400)); have n16_ := Aside0.mk ((by rw [hg]; exact Nat.ne_of_gt (blk_lt (qB BK368.out)) : gb400 ≠ gb368)); have n17_ := Aside0.mk ((by rw [hg]; exact Nat.ne_of_lt (blk_lt (qB BK373.out)) : gb373 ≠ gb400)); have n18_ := Aside0.mk ((by rw [hg]; exact Nat.ne_of_gt (blk_lt (qB BK373.out)) : gb400 ≠ gb373)); clear HO_374000 HO_374001 HO388 HO391 HO394 HO397 BK367 BK368 BK373 HB; have HO_374000 := n0_; have HO_374001 := n1_; have HO388 := n2_; have HO391 := n3_; have HO394 := n4_; have HO397 := n5_; have BK367 := n6_; have BK368 := n7_; have BK373 := n8_; have HB := n9_; have BK400 := n10_; have GW400 := n11_; have GE400 := n12_; have NB367_400 := n13_; have NB400_367 := n14_; have NB368_400 := n15_; have NB400_368 := n16_; have NB373_400 := n17_; have NB400_373 := n18_; clear n0_ n1_ n2_ n3_ n4_ n5_ n6_ n7_ n8_ n9_ n10_ n11_ n12_ n13_ n14_ n15_ n16_ n17_ n18_ hb hbox hg; obtain ⟨Ao122, co122, eo122⟩ := Kd.R_slice HO388.out; subst eo122; have hnb123 := NB400_367.out; have hnc123 := NB367_400.out; have hnb124 := NB400_368.out; have hnc124 := NB368_400.out; have hnb125 := NB400_373.out; have hnc125 := NB373_400.out; have hcz126_0 : w121.cell? ⟨gb400, 0, none⟩ = some (.slice none 0 0) := (blk_cell BK400.out 0).trans rfl; have hcz126_1 : w121.cell? ⟨gb400, 1, none⟩ = some (.slice none 0 0) := (blk_cell BK400.out 1).trans rfl; have hcz126_2 : w121.cell? ⟨gb400, 2, none⟩ = some (.slice none 0 0) := (blk_cell BK400.out 2).trans rfl; have hcz126_3 : w121.cell? ⟨gb400, 3, none⟩ = some (.slice none 0 0) := (blk_cell BK400.out 3).trans rfl; have hcz126_4 : w121.cell? ⟨gb400, 4, none⟩ = some (.int .i64 0) := (blk_cell BK400.out 4).trans rfl; have hfz126_0 := blk_frozen BK400.out 0; have hfz126_1 := blk_frozen BK400.out 1; have hfz126_2 := blk_frozen BK400.out 2; have hfz126_3 := blk_frozen BK400.out 3; have hfz126_4 := blk_frozen BK400.out 4; obtain ⟨Ao127, co127, eo127⟩ := Kd.R_slice HO391.out; subst eo127; obtain ⟨Ao128, co128, eo128⟩ := Kd.R_slice HO394.out; subst eo128; obtain ⟨Ao129, co129, eo129⟩ := Kd.R_slice HO397.out; subst eo129; have hcz130_0 : w121.cell? ⟨gb373, 0, none⟩ = some (u374000) := (blk_cell BK373.out 0).trans rfl; have hcz130_1 : w121.cell? ⟨gb373, 1, none⟩ = some (u374001) := (blk_cell BK373.out 1).trans rfl; have hcz130_2 : w121.cell? ⟨gb373, 2, none⟩ = some (.int .i64 a0_2) := (blk_cell BK373.out 2).trans rfl; have hcz130_3 : w121.cell? ⟨gb373, 3, none⟩ = some (.int .i64 ji74) := (blk_cell BK373.out 3).trans rfl; have hcz130_4 : w121.cell? ⟨gb373, 4, none⟩ = some (.int .i64 a0_4) := (blk_cell BK373.out 4).trans rfl; have hfz130_0 := blk_frozen BK373.out 0; have hfz130_1 := blk_frozen BK373.out 1; have hfz130_2 := blk_frozen BK373.out 2; have hfz130_3 := blk_frozen BK373.out 3; have hfz130_4 := blk_frozen BK373.out 4; obtain ⟨Ao131, co131, eo131⟩ := Kd.R_slice HO_374000.out; subst eo131; obtain ⟨Ao132, co132, eo132⟩ := Kd.R_slice HO_374001.out; subst eo132) | ((with_reducible refine gate_callee (f := 13) rfl ?_); refine goesL_ (some 107) rfl rfl Try.func13 (by kernel_rfl) rfl #[.agg #[.slice Ao131 x374000_3.length co131, .slice Ao132 x374001_3.length co132, .int .i64 a0_2, .int .i64 ji74, .int .i64 a0_4]] rfl (by (try simp only [List.map_toArray, List.map_cons, List.map_nil]); first | done | (simp only [hji74]; rfl) | rfl | (simp only [List.length_drop, List.length_take]; rfl)) ?_; (with_reducible refine (planner_Plan.calls k3 _ _ x374000_3 _ _ x374001_3 a0_2 ji74 a0_4 t401 t404 t407 t410 t413 t414 _ ?side1 ?side2 ?side3 ?side4 A76.out).mono ?_); (case side1 => refine (Kd.R_reads' (e := 3) (base := w.heap.size) (ok := fun k_ => ((((some k_ ≠ (.slice Ao132 x374001_3.length co132 : Value).ownBlock ∧ some k_ ≠ (.slice Ao122 t386.length co122 : Value).ownBlock) ∧ some k_ ≠ (.slice Ao127 t389.length co127 : Value).ownBlock) ∧ some k_ ≠ (.slice Ao128 t392.length co128 : Value).ownBlock) ∧ some k_ ≠ (.slice Ao129 t395.length co129 : Value).ownBlock)) (n := x374000_3.length) (c := co131) ?_).2.2; exact (qR (Kd.R_mono (Kd.R_far (p := ⟨gb400, 4, none⟩) (Kd.R_far (p := ⟨gb400, 3, none⟩) (Kd.R_far (p := ⟨gb400, 2, none⟩) (Kd.R_far (p := ⟨gb400, 1, none⟩) (Kd.R_far (p := ⟨gb400, 0, none⟩) (Kd.R_types HO_374000.out BK400.out (by decide)) (fun _ hk => hk.2) (.slice Ao122 t386.length co122)) (fun _ hk => hk.2) (.slice Ao127 t389.length co127)) (fun _ hk => hk.2) (.slice Ao128 t392.length co128)) (fun _ hk => hk.2) (.slice Ao129 t395.length co129)) (fun _ hk => hk.2) (.int .i64 t398)) (fun _ h_ => h_.1)))); (case side2 => exact (Kd.R_reads' HO_374000.out).2.1); (case side3 => refine (Kd.R_reads' (e := 3) (base := w.heap.size) (ok := fun k_ => ((((some k_ ≠ (.slice Ao131 x374000_3.length co131 : Value).ownBlock ∧ some k_ ≠ (.slice Ao122 t386.length co122 : Value).ownBlock) ∧ some k_ ≠ (.slice Ao127 t389.length co127 : Value).ownBlock) ∧ some k_ ≠ (.slice Ao128 t392.length co128 : Value).ownBlock) ∧ some k_ ≠ (.slice Ao129 t395.length co129 : Value).ownBlock)) (n := x374001_3.length) (c := co132) ?_).2.2; exact (qR (Kd.R_mono (Kd.R_far (p := ⟨gb400, 4, none⟩) (Kd.R_far (p := ⟨gb400, 3, none⟩) (Kd.R_far (p := ⟨gb400, 2, none⟩) (Kd.R_far (p := ⟨gb400, 1, none⟩) (Kd.R_far (p := ⟨gb400, 0, none⟩) (Kd.R_types HO_374001.out BK400.out (by decide)) (fun _ hk => hk.2) (.slice Ao122 t386.length co122)) (fun _ hk => hk.2) (.slice Ao127 t389.length co127)) (fun _ hk => hk.2) (.slice Ao128 t392.length co128)) (fun _ hk => hk.2) (.slice Ao129 t395.length co129)) (fun _ hk => hk.2) (.int .i64 t398)) (fun _ h_ => h_.1)))); (case side4 => exact (Kd.R_reads' HO_374001.out).2.1); rintro e w133 ⟨v402, v405, v408, v411, rfl, ho0, ho1, ho2, ho3, hb⟩; refine ⟨_, rfl, ?_⟩; have n0_ := Aside0.mk (Kd.R_mono (Kd.R_told (Kd.R_told (Kd.R_told (Kd.R_told (Kd.R_old (qR (Kd.R_mono (Kd.R_far (p := ⟨gb400, 4, none⟩) (Kd.R_far (p := ⟨gb400, 3, none⟩) (Kd.R_far (p := ⟨gb400, 2, none⟩) (Kd.R_far (p := ⟨gb400, 1, none⟩) (Kd.R_far (p := ⟨gb400, 0, none⟩) (Kd.R_types HO_374000.out BK400.out (by decide)) (fun _ hk => hk.2) (.slice Ao122 t386.length co122)) (fun _ hk => hk.2) (.slice Ao127 t389.length co127)) (fun _ hk => hk.2) (.slice Ao128 t392.length co128)) (fun _ hk => hk.2) (.slice Ao129 t395.length co129)) (fun _ hk => hk.2) (.int .i64 t398)) (fun _ h_ => h_.1))) hb) (Kd.R_base ho0)) (Kd.R_base ho1)) (Kd.R_base ho2)) (Kd.R_base ho3)) (fun _ h_ => h_.1)); have n1_ := Aside0.mk (Kd.R_mono (Kd.R_told (Kd.R_told (Kd.R_told (Kd.R_told (Kd.R_old (qR (Kd.R_mono (Kd.R_far (p := ⟨gb400, 4, none⟩) (Kd.R_far (p := ⟨gb400, 3, none⟩) (Kd.R_far (p := ⟨gb400, 2, none⟩) (Kd.R_far (p := ⟨gb400, 1, none⟩) (Kd.R_far (p := ⟨gb400, 0, none⟩) (Kd.R_types HO_374001.out BK400.out (by decide)) (fun _ hk => hk.2) (.slice Ao122 t386.length co122)) (fun _ hk => hk.2) (.slice Ao127 t389.length co127)) (fun _ hk => hk.2) (.slice Ao128 t392.length co128)) (fun _ hk => hk.2) (.slice Ao129 t395.length co129)) (fun _ hk => hk.2) (.int .i64 t398)) (fun _ h_ => h_.1))) hb) (Kd.R_base ho0)) (Kd.R_base ho1)) (Kd.R_base ho2)) (Kd.R_base ho3)) (fun _ h_ => h_.1)); have n2_ := Aside0.mk (Kd.R_mono (Kd.R_told (Kd.R_told (Kd.R_told (Kd.R_told (Kd.R_old (qR (Kd.R_mono (Kd.R_far (p := ⟨gb400, 4, none⟩) (Kd.R_far (p := ⟨gb400, 3, none⟩) (Kd.R_far (p := ⟨gb400, 2, none⟩) (Kd.R_far (p := ⟨gb400, 1, none⟩) (Kd.R_far (p := ⟨gb400, 0, none⟩) (Kd.R_types HO388.out BK400.out (by decide)) (fun _ hk => hk.2) (.slice Ao122 t386.length co122)) (fun _ hk => hk.2) (.slice Ao127 t389.length co127)) (fun _ hk => hk.2) (.slice Ao128 t392.length co128)) (fun _ hk => hk.2) (.slice Ao129 t395.length co129)) (fun _ hk => hk.2) (.int .i64 t398)) (fun _ h_ => h_.1))) hb) (Kd.R_base ho0)) (Kd.R_base ho1)) (Kd.R_base ho2)) (Kd.R_base ho3)) (fun _ h_ => h_.1)); have n3_ := Aside0.mk (Kd.R_mono (Kd.R_told (Kd.R_told (Kd.R_told (Kd.R_told (Kd.R_old (qR (Kd.R_mono (Kd.R_far (p := ⟨gb400, 4, none⟩) (Kd.R_far (p := ⟨gb400, 3, none⟩) (Kd.R_far (p := ⟨gb400, 2, none⟩) (Kd.R_far (p := ⟨gb400, 1, none⟩) (Kd.R_far (p := ⟨gb400, 0, none⟩) (Kd.R_types HO391.out BK400.out (by decide)) (fun _ hk => hk.2) (.slice Ao122 t386.length co122)) (fun _ hk => hk.2) (.slice Ao127 t389.length co127)) (fun _ hk => hk.2) (.slice Ao128 t392.length co128)) (fun _ hk => hk.2) (.slice Ao129 t395.length co129)) (fun _ hk => hk.2) (.int .i64 t398)) (fun _ h_ => h_.1))) hb) (Kd.R_base ho0)) (Kd.R_base ho1)) (Kd.R_base ho2)) (Kd.R_base ho3)) (fun _ h_ => h_.1)); have n4_ := Aside0.mk (Kd.R_mono (Kd.R_told (Kd.R_told (Kd.R_told (Kd.R_told (Kd.R_old (qR (Kd.R_mono (Kd.R_far (p := ⟨gb400, 4, none⟩) (Kd.R_far (p := ⟨gb400, 3, none⟩) (Kd.R_far (p := ⟨gb400, 2, none⟩) (Kd.R_far (p := ⟨gb400, 1, none⟩) (Kd.R_far (p := ⟨gb400, 0, none⟩) (Kd.R_types HO394.out BK400.out (by decide)) (fun _ hk => hk.2) (.slice Ao122 t386.length co122)) (fun _ hk => hk.2) (.slice Ao127 t389.length co127)) (fun _ hk => hk.2) (.slice Ao128 t392.length co128)) (fun _ hk => hk.2) (.slice Ao129 t395.length co129)) (fun _ hk => hk.2) (.int .i64 t398)) (fun _ h_ => h_.1))) hb) (Kd.R_base ho0)) (Kd.R_base ho1)) (Kd.R_base ho2)) (Kd.R_base ho3)) (fun _ h_ => h_.1)); have n5_ := Aside0.mk (Kd.R_mono (Kd.R_told (Kd.R_told (Kd.R_told (Kd.R_told (Kd.R_old (qR (Kd.R_mono (Kd.R_far (p := ⟨gb400, 4, none⟩) (Kd.R_far (p := ⟨gb400, 3, none⟩) (Kd.R_far (p := ⟨gb400, 2, none⟩) (Kd.R_far (p := ⟨gb400, 1, none⟩) (Kd.R_far (p := ⟨gb400, 0, none⟩) (Kd.R_types HO397.out BK400.out (by decide)) (fun _ hk => hk.2) (.slice Ao122 t386.length co122)) (fun _ hk => hk.2) (.slice Ao127 t389.length co127)) (fun _ hk => hk.2) (.slice Ao128 t392.length co128)) (fun _ hk => hk.2) (.slice Ao129 t395.length co129)) (fun _ hk => hk.2) (.int .i64 t398)) (fun _ h_ => h_.1))) hb) (Kd.R_base ho0)) (Kd.R_base ho1)) (Kd.R_base ho2)) (Kd.R_base ho3)) (fun _ h_ => h_.1)); have n6_ := Aside0.mk (Kd.R_lower (Kd.R_new' (Kd.R_new' (Kd.R_new' (Kd.R_new' (Kd.R_new' (Kd.R_new' ho0 (Kd.R_lt (qR (Kd.R_mono (Kd.R_far (p := ⟨gb400, 4, none⟩) (Kd.R_far (p := ⟨gb400, 3, none⟩) (Kd.R_far (p := ⟨gb400, 2, none⟩) (Kd.R_far (p := ⟨gb400, 1, none⟩) (Kd.R_far (p := ⟨gb400, 0, none⟩) (Kd.R_types HO_374000.out BK400.out (by decide)) (fun _ hk => hk.2) (.slice Ao122 t386.length co122)) (fun _ hk => hk.2) (.slice Ao127 t389.length co127)) (fun _ hk => hk.2) (.slice Ao128 t392.length co128)) (fun _ hk => hk.2) (.slice Ao129 t395.length co129)) (fun _ hk => hk.2) (.int .i64 t398)) (fun _ h_ => h_.1))))) (Kd.R_lt (qR (Kd.R_mono (Kd.R_far (p := ⟨gb400, 4, none⟩) (Kd.R_far (p := ⟨gb400, 3, none⟩) (Kd.R_far (p := ⟨gb400, 2, none⟩) (Kd.R_far (p := ⟨gb400, 1, none⟩) (Kd.R_far (p := ⟨gb400, 0, none⟩) (Kd.R_types HO_374001.out BK400.out (by decide)) (fun _ hk => hk.2) (.slice Ao122 t386.length co122)) (fun _ hk => hk.2) (.slice Ao127 t389.length co127)) (fun _ hk => hk.2) (.slice Ao128 t392.length co128)) (fun _ hk => hk.2) (.slice Ao129 t395.length co129)) (fun _ hk => hk.2) (.int .i64 t398)) (fun _ h_ => h_.1))))) (Kd.R_lt (qR (Kd.R_mono (Kd.R_far (p := ⟨gb400, 4, none⟩) (Kd.R_far (p := ⟨gb400, 3, none⟩) (Kd.R_far (p := ⟨gb400, 2, none⟩) (Kd.R_far (p := ⟨gb400, 1, none⟩) (Kd.R_far (p := ⟨gb400, 0, none⟩) (Kd.R_types HO388.out BK400.out (by decide)) (fun _ hk => hk.2) (.slice Ao122 t386.length co122)) (fun _ hk => hk.2) (.slice Ao127 t389.length co127)) (fun _ hk => hk.2) (.slice Ao128 t392.length co128)) (fun _ hk => hk.2) (.slice Ao129 t395.length co129)) (fun _ hk => hk.2) (.int .i64 t398)) (fun _ h_ => h_.1))))) (Kd.R_lt (qR (Kd.R_mono (Kd.R_far (p := ⟨gb400, 4, none⟩) (Kd.R_far (p := ⟨gb400, 3, none⟩) (Kd.R_far (p := ⟨gb400, 2, none⟩) (Kd.R_far (p := ⟨gb400, 1, none⟩) (Kd.R_far (p := ⟨gb400, 0, none⟩) (Kd.R_types HO391.out BK400.out (by decide)) (fun _ hk => hk.2) (.slice Ao122 t386.length co122)) (fun _ hk => hk.2) (.slice Ao127 t389.length co127)) (fun _ hk => hk.2) (.slice Ao128 t392.length co128)) (fun _ hk => hk.2) (.slice Ao129 t395.length co129)) (fun _ hk => hk.2) (.int .i64 t398)) (fun _ h_ => h_.1))))) (Kd.R_lt (qR (Kd.R_mono (Kd.R_far (p := ⟨gb400, 4, none⟩) (Kd.R_far (p := ⟨gb400, 3, none⟩) (Kd.R_far (p := ⟨gb400, 2, none⟩) (Kd.R_far (p := ⟨gb400, 1, none⟩) (Kd.R_far (p := ⟨gb400, 0, none⟩) (Kd.R_types HO394.out BK400.out (by decide)) (fun _ hk => hk.2) (.slice Ao122 t386.length co122)) (fun _ hk => hk.2) (.slice Ao127 t389.length co127)) (fun _ hk => hk.2) (.slice Ao128 t392.length co128)) (fun _ hk => hk.2) (.slice Ao129 t395.length co129)) (fun _ hk => hk.2) (.int .i64 t398)) (fun _ h_ => h_.1))))) (Kd.R_lt (qR (Kd.R_mono (Kd.R_far (p := ⟨gb400, 4, none⟩) (Kd.R_far (p := ⟨gb400, 3, none⟩) (Kd.R_far (p := ⟨gb400, 2, none⟩) (Kd.R_far (p := ⟨gb400, 1, none⟩) (Kd.R_far (p := ⟨gb400, 0, none⟩) (Kd.R_types HO397.out BK400.out (by decide)) (fun _ hk => hk.2) (.slice Ao122 t386.length co122)) (fun _ hk => hk.2) (.slice Ao127 t389.length co127)) (fun _ hk => hk.2) (.slice Ao128 t392.length co128)) (fun _ hk => hk.2) (.slice Ao129 t395.length co129)) (fun _ hk => hk.2) (.int .i64 t398)) (fun _ h_ => h_.1))))) (below_size (qW HB.out))); have n7_ := Aside0.mk (Kd.R_lower (Kd.R_new' (Kd.R_new' (Kd.R_new' (Kd.R_new' (Kd.R_new' (Kd.R_new' ho1 (Kd.R_lt (qR (Kd.R_mono (Kd.R_far (p := ⟨gb400, 4, none⟩) (Kd.R_far (p := ⟨gb400, 3, none⟩) (Kd.R_far (p := ⟨gb400, 2, none⟩) (Kd.R_far (p := ⟨gb400, 1, none⟩) (Kd.R_far (p := ⟨gb400, 0, none⟩) (Kd.R_types HO_374000.out BK400.out (by decide)) (fun _ hk => hk.2) (.slice Ao122 t386.length co122)) (fun _ hk => hk.2) (.slice Ao127 t389.length co127)) (fun _ hk => hk.2) (.slice Ao128 t392.length co128)) (fun _ hk => hk.2) (.slice Ao129 t395.length co129)) (fun _ hk => hk.2) (.int .i64 t398)) (fun _ h_ => h_.1))))) (Kd.R_lt (qR (Kd.R_mono (Kd.R_far (p := ⟨gb400, 4, none⟩) (Kd.R_far (p := ⟨gb400, 3, none⟩) (Kd.R_far (p := ⟨gb400, 2, none⟩) (Kd.R_far (p := ⟨gb400, 1, none⟩) (Kd.R_far (p := ⟨gb400, 0, none⟩) (Kd.R_types HO_374001.out BK400.out (by decide)) (fun _ hk => hk.2) (.slice Ao122 t386.length co122)) (fun _ hk => hk.2) (.slice Ao127 t389.length co127)) (fun _ hk => hk.2) (.slice Ao128 t392.length co128)) (fun _ hk => hk.2) (.slice Ao129 t395.length co129)) (fun _ hk => hk.2) (.int .i64 t398)) (fun _ h_ => h_.1))))) (Kd.R_lt (qR (Kd.R_mono (Kd.R_far (p := ⟨gb400, 4, none⟩) (Kd.R_far (p := ⟨gb400, 3, none⟩) (Kd.R_far (p := ⟨gb400, 2, none⟩) (Kd.R_far (p := ⟨gb400, 1, none⟩) (Kd.R_far (p := ⟨gb400, 0, none⟩) (Kd.R_types HO388.out BK400.out (by decide)) (fun _ hk => hk.2) (.slice Ao122 t386.length co122)) (fun _ hk => hk.2) (.slice Ao127 t389.length co127)) (fun _ hk => hk.2) (.slice Ao128 t392.length co128)) (fun _ hk => hk.2) (.slice Ao129 t395.length co129)) (fun _ hk => hk.2) (.int .i64 t398)) (fun _ h_ => h_.1))))) (Kd.R_lt (qR (Kd.R_mono (Kd.R_far (p := ⟨gb400, 4, none⟩) (Kd.R_far (p := ⟨gb400, 3, none⟩) (Kd.R_far (p := ⟨gb400, 2, none⟩) (Kd.R_far (p := ⟨gb400, 1, none⟩) (Kd.R_far (p := ⟨gb400, 0, none⟩) (Kd.R_types HO391.out BK400.out (by decide)) (fun _ hk => hk.2) (.slice Ao122 t386.length co122)) (fun _ hk => hk.2) (.slice Ao127 t389.length co127)) (fun _ hk => hk.2) (.slice Ao128 t392.length co128)) (fun _ hk => hk.2) (.slice Ao129 t395.length co129)) (fun _ hk => hk.2) (.int .i64 t398)) (fun _ h_ => h_.1))))) (Kd.R_lt (qR (Kd.R_mono (Kd.R_far (p := ⟨gb400, 4, none⟩) (Kd.R_far (p := ⟨gb400, 3, none⟩) (Kd.R_far (p := ⟨gb400, 2, none⟩) (Kd.R_far (p := ⟨gb400, 1, none⟩) (Kd.R_far (p := ⟨gb400, 0, none⟩) (Kd.R_types HO394.out BK400.out (by decide)) (fun _ hk => hk.2) (.slice Ao122 t386.length co122)) (fun _ hk => hk.2) (.slice Ao127 t389.length co127)) (fun _ hk => hk.2) (.slice Ao128 t392.length co128)) (fun _ hk => hk.2) (.slice Ao129 t395.length co129)) (fun _ hk => hk.2) (.int .i64 t398)) (fun _ h_ => h_.1))))) (Kd.R_lt (qR (Kd.R_mono (Kd.R_far (p := ⟨gb400, 4, none⟩) (Kd.R_far (p := ⟨gb400, 3, none⟩) (Kd.R_far (p := ⟨gb400, 2, none⟩) (Kd.R_far (p := ⟨gb400, 1, none⟩) (Kd.R_far (p := ⟨gb400, 0, none⟩) (Kd.R_types HO397.out BK400.out (by decide)) (fun _ hk => hk.2) (.slice Ao122 t386.length co122)) (fun _ hk => hk.2) (.slice Ao127 t389.length co127)) (fun _ hk => hk.2) (.slice Ao128 t392.length co128)) (fun _ hk => hk.2) (.slice Ao129 t395.length co129)) (fun _ hk => hk.2) (.int .i64 t398)) (fun _ h_ => h_.1))))) (below_size (qW HB.out))); have n8_ := Aside0.mk (Kd.R_lower (Kd.R_new' (Kd.R_new' (Kd.R_new' (Kd.R_new' (Kd.R_new' (Kd.R_new' ho2 (Kd.R_lt (qR (Kd.R_mono (Kd.R_far (p := ⟨gb400, 4, none⟩) (Kd.R_far (p := ⟨gb400, 3, none⟩) (Kd.R_far (p := ⟨gb400, 2, none⟩) (Kd.R_far (p := ⟨gb400, 1, none⟩) (Kd.R_far (p := ⟨gb400, 0, none⟩) (Kd.R_types HO_374000.out BK400.out (by decide)) (fun _ hk => hk.2) (.slice Ao122 t386.length co122)) (fun _ hk => hk.2) (.slice Ao127 t389.length co127)) (fun _ hk => hk.2) (.slice Ao128 t392.length co128)) (fun _ hk => hk.2) (.slice Ao129 t395.length co129)) (fun _ hk => hk.2) (.int .i64 t398)) (fun _ h_ => h_.1))))) (Kd.R_lt (qR (Kd.R_mono (Kd.R_far (p := ⟨gb400, 4, none⟩) (Kd.R_far (p := ⟨gb400, 3, none⟩) (Kd.R_far (p := ⟨gb400, 2, none⟩) (Kd.R_far (p := ⟨gb400, 1, none⟩) (Kd.R_far (p := ⟨gb400, 0, none⟩) (Kd.R_types HO_374001.out BK400.out (by decide)) (fun _ hk => hk.2) (.slice Ao122 t386.length co122)) (fun _ hk => hk.2) (.slice Ao127 t389.length co127)) (fun _ hk => hk.2) (.slice Ao128 t392.length co128)) (fun _ hk => hk.2) (.slice Ao129 t395.length co129)) (fun _ hk => hk.2) (.int .i64 t398)) (fun _ h_ => h_.1))))) (Kd.R_lt (qR (Kd.R_mono (Kd.R_far (p := ⟨gb400, 4, none⟩) (Kd.R_far (p := ⟨gb400, 3, none⟩) (Kd.R_far (p := ⟨gb400, 2, none⟩) (Kd.R_far (p := ⟨gb400, 1, none⟩) (Kd.R_far (p := ⟨gb400, 0, none⟩) (Kd.R_types HO388.out BK400.out (by decide)) (fun _ hk => hk.2) (.slice Ao122 t386.length co122)) (fun _ hk => hk.2) (.slice Ao127 t389.length co127)) (fun _ hk => hk.2) (.slice Ao128 t392.length co128)) (fun _ hk => hk.2) (.slice Ao129 t395.length co129)) (fun _ hk => hk.2) (.int .i64 t398)) (fun _ h_ => h_.1))))) (Kd.R_lt (qR (Kd.R_mono (Kd.R_far (p := ⟨gb400, 4, none⟩) (Kd.R_far (p := ⟨gb400, 3, none⟩) (Kd.R_far (p := ⟨gb400, 2, none⟩) (Kd.R_far (p := ⟨gb400, 1, none⟩) (Kd.R_far (p := ⟨gb400, 0, none⟩) (Kd.R_types HO391.out BK400.out (by decide)) (fun _ hk => hk.2) (.slice Ao122 t386.length co122)) (fun _ hk => hk.2) (.slice Ao127 t389.length co127)) (fun _ hk => hk.2) (.slice Ao128 t392.length co128)) (fun _ hk => hk.2) (.slice Ao129 t395.length co129)) (fun _ hk => hk.2) (.int .i64 t398)) (fun _ h_ => h_.1))))) (Kd.R_lt (qR (Kd.R_mono (Kd.R_far (p := ⟨gb400, 4, none⟩) (Kd.R_far (p := ⟨gb400, 3, none⟩) (Kd.R_far (p := ⟨gb400, 2, none⟩) (Kd.R_far (p := ⟨gb400, 1, none⟩) (Kd.R_far (p := ⟨gb400, 0, none⟩) (Kd.R_types HO394.out BK400.out (by decide)) (fun _ hk => hk.2) (.slice Ao122 t386.length co122)) (fun _ hk => hk.2) (.slice Ao127 t389.length co127)) (fun _ hk => hk.2) (.slice Ao128 t392.length co128)) (fun _ hk => hk.2) (.slice Ao129 t395.length co129)) (fun _ hk => hk.2) (.int .i64 t398)) (fun _ h_ => h_.1))))) (Kd.R_lt (qR (Kd.R_mono (Kd.R_far (p := ⟨gb400, 4, none⟩) (Kd.R_far (p := ⟨gb400, 3, none⟩) (Kd.R_far (p := ⟨gb400, 2, none⟩) (Kd.R_far (p := ⟨gb400, 1, none⟩) (Kd.R_far (p := ⟨gb400, 0, none⟩) (Kd.R_types HO397.out BK400.out (by decide)) (fun _ hk => hk.2) (.slice Ao122 t386.length co122)) (fun _ hk => hk.2) (.slice Ao127 t389.length co127)) (fun _ hk => hk.2) (.slice Ao128 t392.length co128)) (fun _ hk => hk.2) (.slice Ao129 t395.length co129)) (fun _ hk => hk.2) (.int .i64 t398)) (fun _ h_ => h_.1))))) (below_size (qW HB.out))); have n9_ := Aside0.mk (Kd.R_lower (Kd.R_new' (Kd.R_new' (Kd.R_new' (Kd.R_new' (Kd.R_new' (Kd.R_new' ho3 (Kd.R_lt (qR (Kd.R_mono (Kd.R_far (p := ⟨gb400, 4, none⟩) (Kd.R_far (p := ⟨gb400, 3, none⟩) (Kd.R_far (p := ⟨gb400, 2, none⟩) (Kd.R_far (p := ⟨gb400, 1, none⟩) (Kd.R_far (p := ⟨gb400, 0, none⟩) (Kd.R_types HO_374000.out BK400.out (by decide)) (fun _ hk => hk.2) (.slice Ao122 t386.length co122)) (fun _ hk => hk.2) (.slice Ao127 t389.length co127)) (fun _ hk => hk.2) (.slice Ao128 t392.length co128)) (fun _ hk => hk.2) (.slice Ao129 t395.length co129)) (fun _ hk => hk.2) (.int .i64 t398)) (fun _ h_ => h_.1))))) (Kd.R_lt (qR (Kd.R_mono (Kd.R_far (p := ⟨gb400, 4, none⟩) (Kd.R_far (p := ⟨gb400, 3, none⟩) (Kd.R_far (p := ⟨gb400, 2, none⟩) (Kd.R_far (p := ⟨gb400, 1, none⟩) (Kd.R_far (p := ⟨gb400, 0, none⟩) (Kd.R_types HO_374001.out BK400.out (by decide)) (fun _ hk => hk.2) (.slice Ao122 t386.length co122)) (fun _ hk => hk.2) (.slice Ao127 t389.length co127)) (fun _ hk => hk.2) (.slice Ao128 t392.length co128)) (fun _ hk => hk.2) (.slice Ao129 t395.length co129)) (fun _ hk => hk.2) (.int .i64 t398)) (fun _ h_ => h_.1))))) (Kd.R_lt (qR (Kd.R_mono (Kd.R_far (p := ⟨gb400, 4, none⟩) (Kd.R_far (p := ⟨gb400, 3, none⟩) (Kd.R_far (p := ⟨gb400, 2, none⟩) (Kd.R_far (p := ⟨gb400, 1, none⟩) (Kd.R_far (p := ⟨gb400, 0, none⟩) (Kd.R_types HO388.out BK400.out (by decide)) (fun _ hk => hk.2) (.slice Ao122 t386.length co122)) (fun _ hk => hk.2) (.slice Ao127 t389.length co127)) (fun _ hk => hk.2) (.slice Ao128 t392.length co128)) (fun _ hk => hk.2) (.slice Ao129 t395.length co129)) (fun _ hk => hk.2) (.int .i64 t398)) (fun _ h_ => h_.1))))) (Kd.R_lt (qR (Kd.R_mono (Kd.R_far (p := ⟨gb400, 4, none⟩) (Kd.R_far (p := ⟨gb400, 3, none⟩) (Kd.R_far (p := ⟨gb400, 2, none⟩) (Kd.R_far (p := ⟨gb400, 1, none⟩) (Kd.R_far (p := ⟨gb400, 0, none⟩) (Kd.R_types HO391.out BK400.out (by decide)) (fun _ hk => hk.2) (.slice Ao122 t386.length co122)) (fun _ hk => hk.2) (.slice Ao127 t389.length co127)) (fun _ hk => hk.2) (.slice Ao128 t392.length co128)) (fun _ hk => hk.2) (.slice Ao129 t395.length co129)) (fun _ hk => hk.2) (.int .i64 t398)) (fun _ h_ => h_.1))))) (Kd.R_lt (qR (Kd.R_mono (Kd.R_far (p := ⟨gb400, 4, none⟩) (Kd.R_far (p := ⟨gb400, 3, none⟩) (Kd.R_far (p := ⟨gb400, 2, none⟩) (Kd.R_far (p := ⟨gb400, 1, none⟩) (Kd.R_far (p := ⟨gb400, 0, none⟩) (Kd.R_types HO394.out BK400.out (by decide)) (fun _ hk => hk.2) (.slice Ao122 t386.length co122)) (fun _ hk => hk.2) (.slice Ao127 t389.length co127)) (fun _ hk => hk.2) (.slice Ao128 t392.length co128)) (fun _ hk => hk.2) (.slice Ao129 t395.length co129)) (fun _ hk => hk.2) (.int .i64 t398)) (fun _ h_ => h_.1))))) (Kd.R_lt (qR (Kd.R_mono (Kd.R_far (p := ⟨gb400, 4, none⟩) (Kd.R_far (p := ⟨gb400, 3, none⟩) (Kd.R_far (p := ⟨gb400, 2, none⟩) (Kd.R_far (p := ⟨gb400, 1, none⟩) (Kd.R_far (p := ⟨gb400, 0, none⟩) (Kd.R_types HO397.out BK400.out (by decide)) (fun _ hk => hk.2) (.slice Ao122 t386.length co122)) (fun _ hk => hk.2) (.slice Ao127 t389.length co127)) (fun _ hk => hk.2) (.slice Ao128 t392.length co128)) (fun _ hk => hk.2) (.slice Ao129 t395.length co129)) (fun _ hk => hk.2) (.int .i64 t398)) (fun _ h_ => h_.1))))) (below_size (qW HB.out))); have n10_ := Aside0.mk (blk_below (g := gb367) (o := .cells #[.slice A0_0 l0_0.length c0_0, .slice A0_1 l0_1.length c0_1, .int .i64 a0_2, .int .i64 a0_3, .int .i64 a0_4] 24 (0, 0)) (by (with_reducible repeat (first | refine blk_drewN ?_ _ | refine blk_drew ?_ | refine blk_alloc ?_ _)); refine blk_far ?_ NB367_400.out _; (with_reducible repeat (first | refine blk_drewN ?_ _ | refine blk_drew ?_ | refine blk_alloc ?_ _)); refine blk_far ?_ NB367_400.out _; (with_reducible repeat (first | refine blk_drewN ?_ _ | refine blk_drew ?_ | refine blk_alloc ?_ _)); refine blk_far ?_ NB367_400.out _; (with_reducible repeat (first | refine blk_drewN ?_ _ | refine blk_drew ?_ | refine blk_alloc ?_ _)); refine blk_far ?_ NB367_400.out _; (with_reducible repeat (first | refine blk_drewN ?_ _ | refine blk_drew ?_ | refine blk_alloc ?_ _)); refine blk_far ?_ NB367_400.out _; exact qB BK367.out) hb); have n11_ := Aside0.mk (blk_below (g := gb368) (o := .cells #[.slice A1_0 l1_0.length c1_0, .slice A1_1 l1_1.length c1_1, .int .u8 a1_2] 49 (0, 0)) (by (with_reducible repeat (first | refine blk_drewN ?_ _ | refine blk_drew ?_ | refine blk_alloc ?_ _)); refine blk_far ?_ NB368_400.out _; (with_reducible repeat (first | refine blk_drewN ?_ _ | refine blk_drew ?_ | refine blk_alloc ?_ _)); refine blk_far ?_ NB368_400.out _; (with_reducible repeat (first | refine blk_drewN ?_ _ | refine blk_drew ?_ | refine blk_alloc ?_ _)); refine blk_far ?_ NB368_400.out _; (with_reducible repeat (first | refine blk_drewN ?_ _ | refine blk_drew ?_ | refine blk_alloc ?_ _)); refine blk_far ?_ NB368_400.out _; (with_reducible repeat (first | refine blk_drewN ?_ _ | refine blk_drew ?_ | refine blk_alloc ?_ _)); refine blk_far ?_ NB368_400.out _; exact qB BK368.out) hb); have n12_ := Aside0.mk (blk_below (g := gb373) (o := .cells #[.slice Ao131 x374000_3.length co131, .slice Ao132 x374001_3.length co132, .int .i64 a0_2, .int .i64 ji74, .int .i64 a0_4] 24 (0, 0)) (by (with_reducible repeat (first | refine blk_drewN ?_ _ | refine blk_drew ?_ | refine blk_alloc ?_ _)); refine blk_far ?_ NB373_400.out _; (with_reducible repeat (first | refine blk_drewN ?_ _ | refine blk_drew ?_ | refine blk_alloc ?_ _)); refine blk_far ?_ NB373_400.out _; (with_reducible repeat (first | refine blk_drewN ?_ _ | refine blk_drew ?_ | refine blk_alloc ?_ _)); refine blk_far ?_ NB373_400.out _; (with_reducible repeat (first | refine blk_drewN ?_ _ | refine blk_drew ?_ | refine blk_alloc ?_ _)); refine blk_far ?_ NB373_400.out _; (with_reducible repeat (first | refine blk_drewN ?_ _ | refine blk_drew ?_ | refine blk_alloc ?_ _)); refine blk_far ?_ NB373_400.out _; exact qB BK373.out) hb); have n13_ := Aside0.mk (blk_below (g := gb400) (o := .cells #[.slice Ao122 t386.length co122, .slice Ao127 t389.length co127, .slice Ao128 t392.length co128, .slice Ao129 t395.length co129, .int .i64 t398] 28 (0, 0)) (by (with_reducible repeat (first | refine blk_drewN ?_ _ | refine blk_drew ?_ | refine blk_alloc ?_ _)); refine blk_put (cs := #[.slice Ao122 t386.length co122, .slice Ao127 t389.length co127, .slice Ao128 t392.length co128, .slice Ao129 t395.length co129, .int .i64 0]) ?_ 4 _ rfl; (with_reducible repeat (first | refine blk_drewN ?_ _ | refine blk_drew ?_ | refine blk_alloc ?_ _)); refine blk_put (cs := #[.slice Ao122 t386.length co122, .slice Ao127 t389.length co127, .slice Ao128 t392.length co128, .slice none 0 0, .int .i64 0]) ?_ 3 _ rfl; (with_reducible repeat (first | refine blk_drewN ?_ _ | refine blk_drew ?_ | refine blk_alloc ?_ _)); refine blk_put (cs := #[.slice Ao122 t386.length co122, .slice Ao127 t389.length co127, .slice none 0 0, .slice none 0 0, .int .i64 0]) ?_ 2 _ rfl; (with_reducible repeat (first | refine blk_drewN ?_ _ | refine blk_drew ?_ | refine blk_alloc ?_ _)); refine blk_put (cs := #[.slice Ao122 t386.length co122, .slice none 0 0, .slice none 0 0, .slice none 0 0, .int .i64 0]) ?_ 1 _ rfl; (with_reducible repeat (first | refine blk_drewN ?_ _ | refine blk_drew ?_ | refine blk_alloc ?_ _)); refine blk_put (cs := #[.slice none 0 0, .slice none 0 0, .slice none 0 0, .slice none 0 0, .int .i64 0]) ?_ 0 _ rfl; exact qB BK400.out) hb); have n14_ := Aside0.mk (below_step (qW HB.out) hb); clear HO_374000 HO_374001 HO388 HO391 HO394 HO397 BK367 BK368 BK373 BK400 HB; have HO_374000 := n0_; have HO_374001 := n1_; have HO388 := n2_; have HO391 := n3_; have HO394 := n4_; have HO397 := n5_; have HO403 := n6_; have HO406 := n7_; have HO409 := n8_; have HO412 := n9_; have BK367 := n10_; have BK368 := n11_; have BK373 := n12_; have BK400 := n13_; have HB := n14_; clear n0_ n1_ n2_ n3_ n4_ n5_ n6_ n7_ n8_ n9_ n10_ n11_ n12_ n13_ n14_; (try clear hb); (try clear hb2); (try clear hk); (try clear hi); (try clear ho0); (try clear ho1); (try clear ho2); (try clear ho3)) | ((with_reducible refine gate_dst (N := 12) rfl ?_); (try (refine gate_guard (by rfl) ?_; dsimp only)); refine box_event ?hg (N := 12) ?hd (cs := #[.slice none 0 0, .slice none 0 0, .slice none 0 0, .slice none 0 0, .int .i64 0]) (t := 28) ?hr ?_; (case hd => rfl); (case hg => rfl); (case hr => first | (go_simp; done) | (go_simp; rfl)); intro gb415 hg w134 hbox hb; have n0_ := Aside0.mk (Kd.R_below (qR HO_374000.out) hb); have n1_ := Aside0.mk (Kd.R_below (qR HO_374001.out) hb); have n2_ := Aside0.mk (Kd.R_below (qR HO388.out) hb); have n3_ := Aside0.mk (Kd.R_below (qR HO391.out) hb); have n4_ := Aside0.mk (Kd.R_below (qR HO394.out) hb); have n5_ := Aside0.mk (Kd.R_below (qR HO397.out) hb); have n6_ := Aside0.mk (Kd.R_below (qR HO403.out) hb); have n7_ := Aside0.mk (Kd.R_below (qR HO406.out) hb); have n8_ := Aside0.mk (Kd.R_below (qR HO409.out) hb); have n9_ := Aside0.mk (Kd.R_below (qR HO412.out) hb); have n10_ := Aside0.mk (blk_below (qB BK367.out) hb); have n11_ := Aside0.mk (blk_below (qB BK368.out) hb); have n12_ := Aside0.mk (blk_below (qB BK373.out) hb); have n13_ := Aside0.mk (blk_below (qB BK400.out) hb); have n14_ := Aside0.mk (below_step (qW HB.out) hb); have n15_ := Aside0.mk (hbox); have n16_ := Aside0.mk ((by rw [hg]; exact (below_size (qW HB.out)) : w.heap.size ≤ gb415)); have n17_ := Aside0.mk ((by rw [hg]; exact (below_size (qW HB.out)) : w.heap.size ≤ gb415)); have n18_ := Aside0.mk ((by rw [hg]; exact Nat.ne_of_lt (blk_lt (qB BK367.out)) : gb367 ≠ gb415)); have n19_ := Aside0.mk ((by rw [hg]; exact Nat.ne_of_gt (blk_lt (qB BK367.out)) : gb415 ≠ gb367)); have n20_ := Aside0.mk ((by rw [hg]; exact Nat.ne_of_lt (blk_lt (qB BK368.out)) : gb368 ≠ gb415)); have n21_ := Aside0.mk ((by rw [hg]; exact Nat.ne_of_gt (blk_lt (qB BK368.out)) : gb415 ≠ gb368)); have n22_ := Aside0.mk ((by rw [hg]; exact Nat.ne_of_lt (blk_lt (qB BK373.out)) : gb373 ≠ gb415)); have n23_ := Aside0.mk ((by rw [hg]; exact Nat.ne_of_gt (blk_lt (qB BK373.out)) : gb415 ≠ gb373)); have n24_ := Aside0.mk ((by rw [hg]; exact Nat.ne_of_lt (blk_lt (qB BK400.out)) : gb400 ≠ gb415)); have n25_ := Aside0.mk ((by rw [hg]; exact Nat.ne_of_gt (blk_lt (qB BK400.out)) : gb415 ≠ gb400)); clear HO_374000 HO_374001 HO388 HO391 HO394 HO397 HO403 HO406 HO409 HO412 BK367 BK368 BK373 BK400 HB; have HO_374000 := n0_; have HO_374001 := n1_; have HO388 := n2_; have HO391 := n3_; have HO394 := n4_; have HO397 := n5_; have HO403 := n6_; have HO406 := n7_; have HO409 := n8_; have HO412 := n9_; have BK367 := n10_; have BK368 := n11_; have BK373 := n12_; have BK400 := n13_; have HB := n14_; have BK415 := n15_; have GW415 := n16_; have GE415 := n17_; have NB367_415 := n18_; have NB415_367 := n19_; have NB368_415 := n20_; have NB415_368 := n21_; have NB373_415 := n22_; have NB415_373 := n23_; have NB400_415 := n24_; have NB415_400 := n25_; clear n0_ n1_ n2_ n3_ n4_ n5_ n6_ n7_ n8_ n9_ n10_ n11_ n12_ n13_ n14_ n15_ n16_ n17_ n18_ n19_ n20_ n21_ n22_ n23_ n24_ n25_ hb hbox hg; obtain ⟨Ao135, co135, eo135⟩ := Kd.R_slice HO403.out; subst eo135; have hnb136 := NB415_367.out; have hnc136 := NB367_415.out; have hnb137 := NB415_368.out; have hnc137 := NB368_415.out; have hnb138 := NB415_373.out; have hnc138 := NB373_415.out; have hnb139 := NB415_400.out; have hnc139 := NB400_415.out; have hcz140_0 : w134.cell? ⟨gb415, 0, none⟩ = some (.slice none 0 0) := (blk_cell BK415.out 0).trans rfl; have hcz140_1 : w134.cell? ⟨gb415, 1, none⟩ = some (.slice none 0 0) := (blk_cell BK415.out 1).trans rfl; have hcz140_2 : w134.cell? ⟨gb415, 2, none⟩ = some (.slice none 0 0) := (blk_cell BK415.out 2).trans rfl; have hcz140_3 : w134.cell? ⟨gb415, 3, none⟩ = some (.slice none 0 0) := (blk_cell BK415.out 3).trans rfl; have hcz140_4 : w134.cell? ⟨gb415, 4, none⟩ = some (.int .i64 0) := (blk_cell BK415.out 4).trans rfl; have hfz140_0 := blk_frozen BK415.out 0; have hfz140_1 := blk_frozen BK415.out 1; have hfz140_2 := blk_frozen BK415.out 2; have hfz140_3 := blk_frozen BK415.out 3; have hfz140_4 := blk_frozen BK415.out 4; obtain ⟨Ao141, co141, eo141⟩ := Kd.R_slice HO406.out; subst eo141; obtain ⟨Ao142, co142, eo142⟩ := Kd.R_slice HO409.out; subst eo142; obtain ⟨Ao143, co143, eo143⟩ := Kd.R_slice HO412.out; subst eo143) | ((with_reducible refine gate_callee (f := 12) rfl ?_); refine goesL_ (some 112) rfl rfl Try.func12 (by kernel_rfl) rfl #[] rfl (by (try simp only [List.map_toArray, List.map_cons, List.map_nil]); first | done | rfl | (simp only [List.length_drop, List.length_take]; rfl)) ?_; (with_reducible refine (standbylaw56_awake.calls  t417 _ A113.out).mono ?_); rintro e w144 ⟨rfl, hb⟩; refine ⟨_, rfl, ?_⟩; have n0_ := Aside0.mk (Kd.R_below (qR (Kd.R_mono (Kd.R_far (p := ⟨gb415, 4, none⟩) (Kd.R_far (p := ⟨gb415, 3, none⟩) (Kd.R_far (p := ⟨gb415, 2, none⟩) (Kd.R_far (p := ⟨gb415, 1, none⟩) (Kd.R_far (p := ⟨gb415, 0, none⟩) (Kd.R_types HO_374000.out BK415.out (by decide)) (fun _ hk => hk.2) (.slice Ao135 t401.length co135)) (fun _ hk => hk.2) (.slice Ao141 t404.length co141)) (fun _ hk => hk.2) (.slice Ao142 t407.length co142)) (fun _ hk => hk.2) (.slice Ao143 t410.length co143)) (fun _ hk => hk.2) (.int .i64 t413)) (fun _ h_ => h_.1))) hb); have n1_ := Aside0.mk (Kd.R_below (qR (Kd.R_mono (Kd.R_far (p := ⟨gb415, 4, none⟩) (Kd.R_far (p := ⟨gb415, 3, none⟩) (Kd.R_far (p := ⟨gb415, 2, none⟩) (Kd.R_far (p := ⟨gb415, 1, none⟩) (Kd.R_far (p := ⟨gb415, 0, none⟩) (Kd.R_types HO_374001.out BK415.out (by decide)) (fun _ hk => hk.2) (.slice Ao135 t401.length co135)) (fun _ hk => hk.2) (.slice Ao141 t404.length co141)) (fun _ hk => hk.2) (.slice Ao142 t407.length co142)) (fun _ hk => hk.2) (.slice Ao143 t410.length co143)) (fun _ hk => hk.2) (.int .i64 t413)) (fun _ h_ => h_.1))) hb); have n2_ := Aside0.mk (Kd.R_below (qR (Kd.R_mono (Kd.R_far (p := ⟨gb415, 4, none⟩) (Kd.R_far (p := ⟨gb415, 3, none⟩) (Kd.R_far (p := ⟨gb415, 2, none⟩) (Kd.R_far (p := ⟨gb415, 1, none⟩) (Kd.R_far (p := ⟨gb415, 0, none⟩) (Kd.R_types HO388.out BK415.out (by decide)) (fun _ hk => hk.2) (.slice Ao135 t401.length co135)) (fun _ hk => hk.2) (.slice Ao141 t404.length co141)) (fun _ hk => hk.2) (.slice Ao142 t407.length co142)) (fun _ hk => hk.2) (.slice Ao143 t410.length co143)) (fun _ hk => hk.2) (.int .i64 t413)) (fun _ h_ => h_.1))) hb); have n3_ := Aside0.mk (Kd.R_below (qR (Kd.R_mono (Kd.R_far (p := ⟨gb415, 4, none⟩) (Kd.R_far (p := ⟨gb415, 3, none⟩) (Kd.R_far (p := ⟨gb415, 2, none⟩) (Kd.R_far (p := ⟨gb415, 1, none⟩) (Kd.R_far (p := ⟨gb415, 0, none⟩) (Kd.R_types HO391.out BK415.out (by decide)) (fun _ hk => hk.2) (.slice Ao135 t401.length co135)) (fun _ hk => hk.2) (.slice Ao141 t404.length co141)) (fun _ hk => hk.2) (.slice Ao142 t407.length co142)) (fun _ hk => hk.2) (.slice Ao143 t410.length co143)) (fun _ hk => hk.2) (.int .i64 t413)) (fun _ h_ => h_.1))) hb); have n4_ := Aside0.mk (Kd.R_below (qR (Kd.R_mono (Kd.R_far (p := ⟨gb415, 4, none⟩) (Kd.R_far (p := ⟨gb415, 3, none⟩) (Kd.R_far (p := ⟨gb415, 2, none⟩) (Kd.R_far (p := ⟨gb415, 1, none⟩) (Kd.R_far (p := ⟨gb415, 0, none⟩) (Kd.R_types HO394.out BK415.out (by decide)) (fun _ hk => hk.2) (.slice Ao135 t401.length co135)) (fun _ hk => hk.2) (.slice Ao141 t404.length co141)) (fun _ hk => hk.2) (.slice Ao142 t407.length co142)) (fun _ hk => hk.2) (.slice Ao143 t410.length co143)) (fun _ hk => hk.2) (.int .i64 t413)) (fun _ h_ => h_.1))) hb); have n5_ := Aside0.mk (Kd.R_below (qR (Kd.R_mono (Kd.R_far (p := ⟨gb415, 4, none⟩) (Kd.R_far (p := ⟨gb415, 3, none⟩) (Kd.R_far (p := ⟨gb415, 2, none⟩) (Kd.R_far (p := ⟨gb415, 1, none⟩) (Kd.R_far (p := ⟨gb415, 0, none⟩) (Kd.R_types HO397.out BK415.out (by decide)) (fun _ hk => hk.2) (.slice Ao135 t401.length co135)) (fun _ hk => hk.2) (.slice Ao141 t404.length co141)) (fun _ hk => hk.2) (.slice Ao142 t407.length co142)) (fun _ hk => hk.2) (.slice Ao143 t410.length co143)) (fun _ hk => hk.2) (.int .i64 t413)) (fun _ h_ => h_.1))) hb); have n6_ := Aside0.mk (Kd.R_below (qR (Kd.R_mono (Kd.R_far (p := ⟨gb415, 4, none⟩) (Kd.R_far (p := ⟨gb415, 3, none⟩) (Kd.R_far (p := ⟨gb415, 2, none⟩) (Kd.R_far (p := ⟨gb415, 1, none⟩) (Kd.R_far (p := ⟨gb415, 0, none⟩) (Kd.R_types HO403.out BK415.out (by decide)) (fun _ hk => hk.2) (.slice Ao135 t401.length co135)) (fun _ hk => hk.2) (.slice Ao141 t404.length co141)) (fun _ hk => hk.2) (.slice Ao142 t407.length co142)) (fun _ hk => hk.2) (.slice Ao143 t410.length co143)) (fun _ hk => hk.2) (.int .i64 t413)) (fun _ h_ => h_.1))) hb); have n7_ := Aside0.mk (Kd.R_below (qR (Kd.R_mono (Kd.R_far (p := ⟨gb415, 4, none⟩) (Kd.R_far (p := ⟨gb415, 3, none⟩) (Kd.R_far (p := ⟨gb415, 2, none⟩) (Kd.R_far (p := ⟨gb415, 1, none⟩) (Kd.R_far (p := ⟨gb415, 0, none⟩) (Kd.R_types HO406.out BK415.out (by decide)) (fun _ hk => hk.2) (.slice Ao135 t401.length co135)) (fun _ hk => hk.2) (.slice Ao141 t404.length co141)) (fun _ hk => hk.2) (.slice Ao142 t407.length co142)) (fun _ hk => hk.2) (.slice Ao143 t410.length co143)) (fun _ hk => hk.2) (.int .i64 t413)) (fun _ h_ => h_.1))) hb); have n8_ := Aside0.mk (Kd.R_below (qR (Kd.R_mono (Kd.R_far (p := ⟨gb415, 4, none⟩) (Kd.R_far (p := ⟨gb415, 3, none⟩) (Kd.R_far (p := ⟨gb415, 2, none⟩) (Kd.R_far (p := ⟨gb415, 1, none⟩) (Kd.R_far (p := ⟨gb415, 0, none⟩) (Kd.R_types HO409.out BK415.out (by decide)) (fun _ hk => hk.2) (.slice Ao135 t401.length co135)) (fun _ hk => hk.2) (.slice Ao141 t404.length co141)) (fun _ hk => hk.2) (.slice Ao142 t407.length co142)) (fun _ hk => hk.2) (.slice Ao143 t410.length co143)) (fun _ hk => hk.2) (.int .i64 t413)) (fun _ h_ => h_.1))) hb); have n9_ := Aside0.mk (Kd.R_below (qR (Kd.R_mono (Kd.R_far (p := ⟨gb415, 4, none⟩) (Kd.R_far (p := ⟨gb415, 3, none⟩) (Kd.R_far (p := ⟨gb415, 2, none⟩) (Kd.R_far (p := ⟨gb415, 1, none⟩) (Kd.R_far (p := ⟨gb415, 0, none⟩) (Kd.R_types HO412.out BK415.out (by decide)) (fun _ hk => hk.2) (.slice Ao135 t401.length co135)) (fun _ hk => hk.2) (.slice Ao141 t404.length co141)) (fun _ hk => hk.2) (.slice Ao142 t407.length co142)) (fun _ hk => hk.2) (.slice Ao143 t410.length co143)) (fun _ hk => hk.2) (.int .i64 t413)) (fun _ h_ => h_.1))) hb); have n10_ := Aside0.mk (blk_below (g := gb367) (o := .cells #[.slice A0_0 l0_0.length c0_0, .slice A0_1 l0_1.length c0_1, .int .i64 a0_2, .int .i64 a0_3, .int .i64 a0_4] 24 (0, 0)) (by (with_reducible repeat (first | refine blk_drewN ?_ _ | refine blk_drew ?_ | refine blk_alloc ?_ _)); refine blk_far ?_ NB367_415.out _; (with_reducible repeat (first | refine blk_drewN ?_ _ | refine blk_drew ?_ | refine blk_alloc ?_ _)); refine blk_far ?_ NB367_415.out _; (with_reducible repeat (first | refine blk_drewN ?_ _ | refine blk_drew ?_ | refine blk_alloc ?_ _)); refine blk_far ?_ NB367_415.out _; (with_reducible repeat (first | refine blk_drewN ?_ _ | refine blk_drew ?_ | refine blk_alloc ?_ _)); refine blk_far ?_ NB367_415.out _; (with_reducible repeat (first | refine blk_drewN ?_ _ | refine blk_drew ?_ | refine blk_alloc ?_ _)); refine blk_far ?_ NB367_415.out _; exact qB BK367.out) hb); have n11_ := Aside0.mk (blk_below (g := gb368) (o := .cells #[.slice A1_0 l1_0.length c1_0, .slice A1_1 l1_1.length c1_1, .int .u8 a1_2] 49 (0, 0)) (by (with_reducible repeat (first | refine blk_drewN ?_ _ | refine blk_drew ?_ | refine blk_alloc ?_ _)); refine blk_far ?_ NB368_415.out _; (with_reducible repeat (first | refine blk_drewN ?_ _ | refine blk_drew ?_ | refine blk_alloc ?_ _)); refine blk_far ?_ NB368_415.out _; (with_reducible repeat (first | refine blk_drewN ?_ _ | refine blk_drew ?_ | refine blk_alloc ?_ _)); refine blk_far ?_ NB368_415.out _; (with_reducible repeat (first | refine blk_drewN ?_ _ | refine blk_drew ?_ | refine blk_alloc ?_ _)); refine blk_far ?_ NB368_415.out _; (with_reducible repeat (first | refine blk_drewN ?_ _ | refine blk_drew ?_ | refine blk_alloc ?_ _)); refine blk_far ?_ NB368_415.out _; exact qB BK368.out) hb); have n12_ := Aside0.mk (blk_below (g := gb373) (o := .cells #[.slice Ao131 x374000_3.length co131, .slice Ao132 x374001_3.length co132, .int .i64 a0_2, .int .i64 ji74, .int .i64 a0_4] 24 (0, 0)) (by (with_reducible repeat (first | refine blk_drewN ?_ _ | refine blk_drew ?_ | refine blk_alloc ?_ _)); refine blk_far ?_ NB373_415.out _; (with_reducible repeat (first | refine blk_drewN ?_ _ | refine blk_drew ?_ | refine blk_alloc ?_ _)); refine blk_far ?_ NB373_415.out _; (with_reducible repeat (first | refine blk_drewN ?_ _ | refine blk_drew ?_ | refine blk_alloc ?_ _)); refine blk_far ?_ NB373_415.out _; (with_reducible repeat (first | refine blk_drewN ?_ _ | refine blk_drew ?_ | refine blk_alloc ?_ _)); refine blk_far ?_ NB373_415.out _; (with_reducible repeat (first | refine blk_drewN ?_ _ | refine blk_drew ?_ | refine blk_alloc ?_ _)); refine blk_far ?_ NB373_415.out _; exact qB BK373.out) hb); have n13_ := Aside0.mk (blk_below (g := gb400) (o := .cells #[.slice Ao122 t386.length co122, .slice Ao127 t389.length co127, .slice Ao128 t392.length co128, .slice Ao129 t395.length co129, .int .i64 t398] 28 (0, 0)) (by (with_reducible repeat (first | refine blk_drewN ?_ _ | refine blk_drew ?_ | refine blk_alloc ?_ _)); refine blk_far ?_ NB400_415.out _; (with_reducible repeat (first | refine blk_drewN ?_ _ | refine blk_drew ?_ | refine blk_alloc ?_ _)); refine blk_far ?_ NB400_415.out _; (with_reducible repeat (first | refine blk_drewN ?_ _ | refine blk_drew ?_ | refine blk_alloc ?_ _)); refine blk_far ?_ NB400_415.out _; (with_reducible repeat (first | refine blk_drewN ?_ _ | refine blk_drew ?_ | refine blk_alloc ?_ _)); refine blk_far ?_ NB400_415.out _; (with_reducible repeat (first | refine blk_drewN ?_ _ | refine blk_drew ?_ | refine blk_alloc ?_ _)); refine blk_far ?_ NB400_415.out _; exact qB BK400.out) hb); have n14_ := Aside0.mk (blk_below (g := gb415) (o := .cells #[.slice Ao135 t401.length co135, .slice Ao141 t404.length co141, .slice Ao142 t407.length co142, .slice Ao143 t410.length co143, .int .i64 t413] 28 (0, 0)) (by (with_reducible repeat (first | refine blk_drewN ?_ _ | refine blk_drew ?_ | refine blk_alloc ?_ _)); refine blk_put (cs := #[.slice Ao135 t401.length co135, .slice Ao141 t404.length co141, .slice Ao142 t407.length co142, .slice Ao143 t410.length co143, .int .i64 0]) ?_ 4 _ rfl; (with_reducible repeat (first | refine blk_drewN ?_ _ | refine blk_drew ?_ | refine blk_alloc ?_ _)); refine blk_put (cs := #[.slice Ao135 t401.length co135, .slice Ao141 t404.length co141, .slice Ao142 t407.length co142, .slice none 0 0, .int .i64 0]) ?_ 3 _ rfl; (with_reducible repeat (first | refine blk_drewN ?_ _ | refine blk_drew ?_ | refine blk_alloc ?_ _)); refine blk_put (cs := #[.slice Ao135 t401.length co135, .slice Ao141 t404.length co141, .slice none 0 0, .slice none 0 0, .int .i64 0]) ?_ 2 _ rfl; (with_reducible repeat (first | refine blk_drewN ?_ _ | refine blk_drew ?_ | refine blk_alloc ?_ _)); refine blk_put (cs := #[.slice Ao135 t401.length co135, .slice none 0 0, .slice none 0 0, .slice none 0 0, .int .i64 0]) ?_ 1 _ rfl; (with_reducible repeat (first | refine blk_drewN ?_ _ | refine blk_drew ?_ | refine blk_alloc ?_ _)); refine blk_put (cs := #[.slice none 0 0, .slice none 0 0, .slice none 0 0, .slice none 0 0, .int .i64 0]) ?_ 0 _ rfl; exact qB BK415.out) hb); have n15_ := Aside0.mk (below_step (qW HB.out) hb); clear HO_374000 HO_374001 HO388 HO391 HO394 HO397 HO403 HO406 HO409 HO412 BK367 BK368 BK373 BK400 BK415 HB; have HO_374000 := n0_; have HO_374001 := n1_; have HO388 := n2_; have HO391 := n3_; have HO394 := n4_; have HO397 := n5_; have HO403 := n6_; have HO406 := n7_; have HO409 := n8_; have HO412 := n9_; have BK367 := n10_; have BK368 := n11_; have BK373 := n12_; have BK400 := n13_; have BK415 := n14_; have HB := n15_; clear n0_ n1_ n2_ n3_ n4_ n5_ n6_ n7_ n8_ n9_ n10_ n11_ n12_ n13_ n14_ n15_; (try clear hb); (try clear hb2); (try clear hk); (try clear hi)))
           go_ret
           exact ⟨by first | rfl | (simp [errW_none, errW_some] <;> rfl) | (simp only [← hji74]; first | rfl | (simp [errW_none, errW_some] <;> rfl)) | (simp [*, errW_none, errW_some] <;> rfl), by repeat (first | (with_reducible first | exact HB.out | apply below_alloc | apply pw_below_drewN | apply below_drew1 | refine below_set ?_ GE367.out | refine below_set ?_ GE368.out | refine below_set ?_ GE373.out | refine below_set ?_ GE400.out | refine below_set ?_ GE415.out) | exact HB.out)⟩

          rw [if_pos c77] at H
          have c77b0 : (t399 == 0) = true := beq_iff_eq.mpr c77
          have c77b1 : (t399 != 0) = false := bne_eq_false_iff_eq.mpr c77
          clear c77
          by_cases c78 : t414 = 0
          case neg =>
           rw [if_neg c78] at H
           exact absurd H (by simp)
          rw [if_pos c78] at H
          have c78b0 : (t414 == 0) = true := beq_iff_eq.mpr c78
          have c78b1 : (t414 != 0) = false := bne_eq_false_iff_eq.mpr c78
          clear c78
          by_cases c79 : t413 ≤ t398
          case neg =>
           rw [if_neg c79] at H
           exact absurd H (by simp)
          rw [if_pos c79] at H
          have c79b0 : decide (t413 ≤ t398) = true := decide_eq_true c79
          clear c79
          replace H := Option.bind_eq_some_iff.mp H
          obtain ⟨t416, A800, H⟩ := H
          replace H : (some t416) = some r := H
          have A80 := Aside0.mk A800
          clear A800
          obtain rfl := Option.some.inj H
          have hnb81 := NB367_368.out
          have hnc81 := NB368_367.out
          have hnb82 := NB367_373.out
          have hnc82 := NB373_367.out
          have hcz83_0 : wr.cell? ⟨gb367, 0, none⟩ = some (.slice A0_0 l0_0.length c0_0) := (blk_cell BK367.out 0).trans rfl
          have hcz83_1 : wr.cell? ⟨gb367, 1, none⟩ = some (.slice A0_1 l0_1.length c0_1) := (blk_cell BK367.out 1).trans rfl
          have hcz83_2 : wr.cell? ⟨gb367, 2, none⟩ = some (.int .i64 a0_2) := (blk_cell BK367.out 2).trans rfl
          have hcz83_3 : wr.cell? ⟨gb367, 3, none⟩ = some (.int .i64 a0_3) := (blk_cell BK367.out 3).trans rfl
          have hcz83_4 : wr.cell? ⟨gb367, 4, none⟩ = some (.int .i64 a0_4) := (blk_cell BK367.out 4).trans rfl
          have hfz83_0 := blk_frozen BK367.out 0
          have hfz83_1 := blk_frozen BK367.out 1
          have hfz83_2 := blk_frozen BK367.out 2
          have hfz83_3 := blk_frozen BK367.out 3
          have hfz83_4 := blk_frozen BK367.out 4
          have hnb84 := NB368_373.out
          have hnc84 := NB373_368.out
          have hcz85_0 : wr.cell? ⟨gb368, 0, none⟩ = some (.slice A1_0 l1_0.length c1_0) := (blk_cell BK368.out 0).trans rfl
          have hcz85_1 : wr.cell? ⟨gb368, 1, none⟩ = some (.slice A1_1 l1_1.length c1_1) := (blk_cell BK368.out 1).trans rfl
          have hcz85_2 : wr.cell? ⟨gb368, 2, none⟩ = some (.int .u8 a1_2) := (blk_cell BK368.out 2).trans rfl
          have hfz85_0 := blk_frozen BK368.out 0
          have hfz85_1 := blk_frozen BK368.out 1
          have hfz85_2 := blk_frozen BK368.out 2
          have hcz86_0 : wr.cell? ⟨gb373, 0, none⟩ = some (u374000) := (blk_cell BK373.out 0).trans rfl
          have hcz86_1 : wr.cell? ⟨gb373, 1, none⟩ = some (u374001) := (blk_cell BK373.out 1).trans rfl
          have hcz86_2 : wr.cell? ⟨gb373, 2, none⟩ = some (.int .i64 a0_2) := (blk_cell BK373.out 2).trans rfl
          have hcz86_3 : wr.cell? ⟨gb373, 3, none⟩ = some (.int .i64 a0_3) := (blk_cell BK373.out 3).trans rfl
          have hcz86_4 : wr.cell? ⟨gb373, 4, none⟩ = some (.int .i64 a0_4) := (blk_cell BK373.out 4).trans rfl
          have hfz86_0 := blk_frozen BK373.out 0
          have hfz86_1 := blk_frozen BK373.out 1
          have hfz86_2 := blk_frozen BK373.out 2
          have hfz86_3 := blk_frozen BK373.out 3
          have hfz86_4 := blk_frozen BK373.out 4
          go_wp2_with (first | ((with_reducible refine gate_callee (f := 13) rfl ?_); refine goesL_ (some 102) rfl rfl Try.func13 (by kernel_rfl) rfl #[.agg #[.slice A0_0 l0_0.length c0_0, .slice A0_1 l0_1.length c0_1, .int .i64 a0_2, .int .i64 a0_3, .int .i64 a0_4]] rfl (by (try simp only [List.map_toArray, List.map_cons, List.map_nil]); first | done | rfl | (simp only [List.length_drop, List.length_take]; rfl)) ?_; (with_reducible refine (planner_Plan.calls k3 _ _ l0_0 _ _ l0_1 a0_2 a0_3 a0_4 t386 t389 t392 t395 t398 t399 _ ?side1 ?side2 ?side3 ?side4 A75.out).mono ?_); (case side1 => exact Kd.C_below HR0_0.out (qW HB.out)); (case side2 => exact HC0_0.out); (case side3 => exact Kd.C_below HR0_1.out (qW HB.out)); (case side4 => exact HC0_1.out); rintro e w87 ⟨v387, v390, v393, v396, rfl, ho0, ho1, ho2, ho3, hb⟩; refine ⟨_, rfl, ?_⟩; have n0_ := Aside0.mk (Kd.R_mono (Kd.R_told (Kd.R_told (Kd.R_told (Kd.R_told (Kd.R_old (qR (Kd.R_mono (Kd.R_far (p := ⟨gb373, 3, none⟩) (Kd.R_types HO_374000.out BK373.out (by decide)) (fun _ hk => hk.2) (.int .i64 ji74)) (fun _ h_ => h_.1))) hb) (Kd.R_base ho0)) (Kd.R_base ho1)) (Kd.R_base ho2)) (Kd.R_base ho3)) (fun _ h_ => h_.1)); have n1_ := Aside0.mk (Kd.R_mono (Kd.R_told (Kd.R_told (Kd.R_told (Kd.R_told (Kd.R_old (qR (Kd.R_mono (Kd.R_far (p := ⟨gb373, 3, none⟩) (Kd.R_types HO_374001.out BK373.out (by decide)) (fun _ hk => hk.2) (.int .i64 ji74)) (fun _ h_ => h_.1))) hb) (Kd.R_base ho0)) (Kd.R_base ho1)) (Kd.R_base ho2)) (Kd.R_base ho3)) (fun _ h_ => h_.1)); have n2_ := Aside0.mk (Kd.R_lower (Kd.R_new' (Kd.R_new' ho0 (Kd.R_lt (qR (Kd.R_mono (Kd.R_far (p := ⟨gb373, 3, none⟩) (Kd.R_types HO_374000.out BK373.out (by decide)) (fun _ hk => hk.2) (.int .i64 ji74)) (fun _ h_ => h_.1))))) (Kd.R_lt (qR (Kd.R_mono (Kd.R_far (p := ⟨gb373, 3, none⟩) (Kd.R_types HO_374001.out BK373.out (by decide)) (fun _ hk => hk.2) (.int .i64 ji74)) (fun _ h_ => h_.1))))) (below_size (qW HB.out))); have n3_ := Aside0.mk (Kd.R_lower (Kd.R_new' (Kd.R_new' ho1 (Kd.R_lt (qR (Kd.R_mono (Kd.R_far (p := ⟨gb373, 3, none⟩) (Kd.R_types HO_374000.out BK373.out (by decide)) (fun _ hk => hk.2) (.int .i64 ji74)) (fun _ h_ => h_.1))))) (Kd.R_lt (qR (Kd.R_mono (Kd.R_far (p := ⟨gb373, 3, none⟩) (Kd.R_types HO_374001.out BK373.out (by decide)) (fun _ hk => hk.2) (.int .i64 ji74)) (fun _ h_ => h_.1))))) (below_size (qW HB.out))); have n4_ := Aside0.mk (Kd.R_lower (Kd.R_new' (Kd.R_new' ho2 (Kd.R_lt (qR (Kd.R_mono (Kd.R_far (p := ⟨gb373, 3, none⟩) (Kd.R_types HO_374000.out BK373.out (by decide)) (fun _ hk => hk.2) (.int .i64 ji74)) (fun _ h_ => h_.1))))) (Kd.R_lt (qR (Kd.R_mono (Kd.R_far (p := ⟨gb373, 3, none⟩) (Kd.R_types HO_374001.out BK373.out (by decide)) (fun _ hk => hk.2) (.int .i64 ji74)) (fun _ h_ => h_.1))))) (below_size (qW HB.out))); have n5_ := Aside0.mk (Kd.R_lower (Kd.R_new' (Kd.R_new' ho3 (Kd.R_lt (qR (Kd.R_mono (Kd.R_far (p := ⟨gb373, 3, none⟩) (Kd.R_types HO_374000.out BK373.out (by decide)) (fun _ hk => hk.2) (.int .i64 ji74)) (fun _ h_ => h_.1))))) (Kd.R_lt (qR (Kd.R_mono (Kd.R_far (p := ⟨gb373, 3, none⟩) (Kd.R_types HO_374001.out BK373.out (by decide)) (fun _ hk => hk.2) (.int .i64 ji74)) (fun _ h_ => h_.1))))) (below_size (qW HB.out))); have n6_ := Aside0.mk (blk_below (g := gb367) (o := .cells #[.slice A0_0 l0_0.length c0_0, .slice A0_1 l0_1.length c0_1, .int .i64 a0_2, .int .i64 a0_3, .int .i64 a0_4] 24 (0, 0)) (by (with_reducible repeat (first | refine blk_drewN ?_ _ | refine blk_drew ?_ | refine blk_alloc ?_ _)); refine blk_far ?_ NB367_373.out _; exact qB BK367.out) hb); have n7_ := Aside0.mk (blk_below (g := gb368) (o := .cells #[.slice A1_0 l1_0.length c1_0, .slice A1_1 l1_1.length c1_1, .int .u8 a1_2] 49 (0, 0)) (by (with_reducible repeat (first | refine blk_drewN ?_ _ | refine blk_drew ?_ | refine blk_alloc ?_ _)); refine blk_far ?_ NB368_373.out _; exact qB BK368.out) hb); have n8_ := Aside0.mk (blk_below (g := gb373) (o := .cells #[u374000, u374001, .int .i64 a0_2, .int .i64 ji74, .int .i64 a0_4] 24 (0, 0)) (by (with_reducible repeat (first | refine blk_drewN ?_ _ | refine blk_drew ?_ | refine blk_alloc ?_ _)); refine blk_put (cs := #[u374000, u374001, .int .i64 a0_2, .int .i64 a0_3, .int .i64 a0_4]) ?_ 3 _ rfl; exact qB BK373.out) hb); have n9_ := Aside0.mk (below_step (qW HB.out) hb); clear HO_374000 HO_374001 BK367 BK368 BK373 HB; have HO_374000 := n0_; have HO_374001 := n1_; have HO388 := n2_; have HO391 := n3_; have HO394 := n4_; have HO397 := n5_; have BK367 := n6_; have BK368 := n7_; have BK373 := n8_; have HB := n9_; clear n0_ n1_ n2_ n3_ n4_ n5_ n6_ n7_ n8_ n9_; (try clear hb); (try clear hb2); (try clear hk); (try clear hi); (try clear ho0); (try clear ho1); (try clear ho2); (try clear ho3)) | ((with_reducible refine gate_dst (N := 10) rfl ?_); (try (refine gate_guard (by rfl) ?_; dsimp only)); refine box_event ?hg (N := 10) ?hd (cs := #[.slice none 0 0, .slice none 0 0, .slice none 0 0, .slice none 0 0, .int .i64 0]) (t := 28) ?hr ?_; (case hd => rfl); (case hg => rfl); (case hr => first | (go_simp; done) | (go_simp; rfl)); intro gb400 hg w88 hbox hb; have n0_ := Aside0.mk (Kd.R_below (qR HO_374000.out) hb); have n1_ := Aside0.mk (Kd.R_below (qR HO_374001.out) hb); have n2_ := Aside0.mk (Kd.R_below (qR HO388.out) hb); have n3_ := Aside0.mk (Kd.R_below (qR HO391.out) hb); have n4_ := Aside0.mk (Kd.R_below (qR HO394.out) hb); have n5_ := Aside0.mk (Kd.R_below (qR HO397.out) hb); have n6_ := Aside0.mk (blk_below (qB BK367.out) hb); have n7_ := Aside0.mk (blk_below (qB BK368.out) hb); have n8_ := Aside0.mk (blk_below (qB BK373.out) hb); have n9_ := Aside0.mk (below_step (qW HB.out) hb); have n10_ := Aside0.mk (hbox); have n11_ := Aside0.mk ((by rw [hg]; exact (below_size (qW HB.out)) : w.heap.size ≤ gb400)); have n12_ := Aside0.mk ((by rw [hg]; exact (below_size (qW HB.out)) : w.heap.size ≤ gb400)); have n13_ := Aside0.mk ((by rw [hg]; exact Nat.ne_of_lt (blk_lt (qB BK367.out)) : gb367 ≠ gb400)); have n14_ := Aside0.mk ((by rw [hg]; exact Nat.ne_of_gt (blk_lt (qB BK367.out)) : gb400 ≠ gb367)); have n15_ := Aside0.mk ((by rw [hg]; exact Nat.ne_of_lt (blk_lt (qB BK368.out)) : gb368 ≠ gb400)); have n16_ := Aside0.mk ((by rw [hg]; exact Nat.ne_of_gt (blk_lt (qB BK368.out)) : gb400 ≠ gb368)); have n17_ := Aside0.mk ((by rw [hg]; exact Nat.ne_of_lt (blk_lt (qB BK373.out)) : gb373 ≠ gb400)); have n18_ := Aside0.mk ((by rw [hg]; exact Nat.ne_of_gt (blk_lt (qB BK373.out)) : gb400 ≠ gb373)); clear HO_374000 HO_374001 HO388 HO391 HO394 HO397 BK367 BK368 BK373 HB; have HO_374000 := n0_; have HO_374001 := n1_; have HO388 := n2_; have HO391 := n3_; have HO394 := n4_; have HO397 := n5_; have BK367 := n6_; have BK368 := n7_; have BK373 := n8_; have HB := n9_; have BK400 := n10_; have GW400 := n11_; have GE400 := n12_; have NB367_400 := n13_; have NB400_367 := n14_; have NB368_400 := n15_; have NB400_368 := n16_; have NB373_400 := n17_; have NB400_373 := n18_; clear n0_ n1_ n2_ n3_ n4_ n5_ n6_ n7_ n8_ n9_ n10_ n11_ n12_ n13_ n14_ n15_ n16_ n17_ n18_ hb hbox hg; obtain ⟨Ao89, co89, eo89⟩ := Kd.R_slice HO388.out; subst eo89; have hnb90 := NB400_367.out; have hnc90 := NB367_400.out; have hnb91 := NB400_368.out; have hnc91 := NB368_400.out; have hnb92 := NB400_373.out; have hnc92 := NB373_400.out; have hcz93_0 : w88.cell? ⟨gb400, 0, none⟩ = some (.slice none 0 0) := (blk_cell BK400.out 0).trans rfl; have hcz93_1 : w88.cell? ⟨gb400, 1, none⟩ = some (.slice none 0 0) := (blk_cell BK400.out 1).trans rfl; have hcz93_2 : w88.cell? ⟨gb400, 2, none⟩ = some (.slice none 0 0) := (blk_cell BK400.out 2).trans rfl; have hcz93_3 : w88.cell? ⟨gb400, 3, none⟩ = some (.slice none 0 0) := (blk_cell BK400.out 3).trans rfl; have hcz93_4 : w88.cell? ⟨gb400, 4, none⟩ = some (.int .i64 0) := (blk_cell BK400.out 4).trans rfl; have hfz93_0 := blk_frozen BK400.out 0; have hfz93_1 := blk_frozen BK400.out 1; have hfz93_2 := blk_frozen BK400.out 2; have hfz93_3 := blk_frozen BK400.out 3; have hfz93_4 := blk_frozen BK400.out 4; obtain ⟨Ao94, co94, eo94⟩ := Kd.R_slice HO391.out; subst eo94; obtain ⟨Ao95, co95, eo95⟩ := Kd.R_slice HO394.out; subst eo95; obtain ⟨Ao96, co96, eo96⟩ := Kd.R_slice HO397.out; subst eo96; have hcz97_0 : w88.cell? ⟨gb373, 0, none⟩ = some (u374000) := (blk_cell BK373.out 0).trans rfl; have hcz97_1 : w88.cell? ⟨gb373, 1, none⟩ = some (u374001) := (blk_cell BK373.out 1).trans rfl; have hcz97_2 : w88.cell? ⟨gb373, 2, none⟩ = some (.int .i64 a0_2) := (blk_cell BK373.out 2).trans rfl; have hcz97_3 : w88.cell? ⟨gb373, 3, none⟩ = some (.int .i64 ji74) := (blk_cell BK373.out 3).trans rfl; have hcz97_4 : w88.cell? ⟨gb373, 4, none⟩ = some (.int .i64 a0_4) := (blk_cell BK373.out 4).trans rfl; have hfz97_0 := blk_frozen BK373.out 0; have hfz97_1 := blk_frozen BK373.out 1; have hfz97_2 := blk_frozen BK373.out 2; have hfz97_3 := blk_frozen BK373.out 3; have hfz97_4 := blk_frozen BK373.out 4; obtain ⟨Ao98, co98, eo98⟩ := Kd.R_slice HO_374000.out; subst eo98; obtain ⟨Ao99, co99, eo99⟩ := Kd.R_slice HO_374001.out; subst eo99) | ((with_reducible refine gate_callee (f := 13) rfl ?_); refine goesL_ (some 107) rfl rfl Try.func13 (by kernel_rfl) rfl #[.agg #[.slice Ao98 x374000_3.length co98, .slice Ao99 x374001_3.length co99, .int .i64 a0_2, .int .i64 ji74, .int .i64 a0_4]] rfl (by (try simp only [List.map_toArray, List.map_cons, List.map_nil]); first | done | (simp only [hji74]; rfl) | rfl | (simp only [List.length_drop, List.length_take]; rfl)) ?_; (with_reducible refine (planner_Plan.calls k3 _ _ x374000_3 _ _ x374001_3 a0_2 ji74 a0_4 t401 t404 t407 t410 t413 t414 _ ?side1 ?side2 ?side3 ?side4 A76.out).mono ?_); (case side1 => refine (Kd.R_reads' (e := 3) (base := w.heap.size) (ok := fun k_ => ((((some k_ ≠ (.slice Ao99 x374001_3.length co99 : Value).ownBlock ∧ some k_ ≠ (.slice Ao89 t386.length co89 : Value).ownBlock) ∧ some k_ ≠ (.slice Ao94 t389.length co94 : Value).ownBlock) ∧ some k_ ≠ (.slice Ao95 t392.length co95 : Value).ownBlock) ∧ some k_ ≠ (.slice Ao96 t395.length co96 : Value).ownBlock)) (n := x374000_3.length) (c := co98) ?_).2.2; exact (qR (Kd.R_mono (Kd.R_far (p := ⟨gb400, 4, none⟩) (Kd.R_far (p := ⟨gb400, 3, none⟩) (Kd.R_far (p := ⟨gb400, 2, none⟩) (Kd.R_far (p := ⟨gb400, 1, none⟩) (Kd.R_far (p := ⟨gb400, 0, none⟩) (Kd.R_types HO_374000.out BK400.out (by decide)) (fun _ hk => hk.2) (.slice Ao89 t386.length co89)) (fun _ hk => hk.2) (.slice Ao94 t389.length co94)) (fun _ hk => hk.2) (.slice Ao95 t392.length co95)) (fun _ hk => hk.2) (.slice Ao96 t395.length co96)) (fun _ hk => hk.2) (.int .i64 t398)) (fun _ h_ => h_.1)))); (case side2 => exact (Kd.R_reads' HO_374000.out).2.1); (case side3 => refine (Kd.R_reads' (e := 3) (base := w.heap.size) (ok := fun k_ => ((((some k_ ≠ (.slice Ao98 x374000_3.length co98 : Value).ownBlock ∧ some k_ ≠ (.slice Ao89 t386.length co89 : Value).ownBlock) ∧ some k_ ≠ (.slice Ao94 t389.length co94 : Value).ownBlock) ∧ some k_ ≠ (.slice Ao95 t392.length co95 : Value).ownBlock) ∧ some k_ ≠ (.slice Ao96 t395.length co96 : Value).ownBlock)) (n := x374001_3.length) (c := co99) ?_).2.2; exact (qR (Kd.R_mono (Kd.R_far (p := ⟨gb400, 4, none⟩) (Kd.R_far (p := ⟨gb400, 3, none⟩) (Kd.R_far (p := ⟨gb400, 2, none⟩) (Kd.R_far (p := ⟨gb400, 1, none⟩) (Kd.R_far (p := ⟨gb400, 0, none⟩) (Kd.R_types HO_374001.out BK400.out (by decide)) (fun _ hk => hk.2) (.slice Ao89 t386.length co89)) (fun _ hk => hk.2) (.slice Ao94 t389.length co94)) (fun _ hk => hk.2) (.slice Ao95 t392.length co95)) (fun _ hk => hk.2) (.slice Ao96 t395.length co96)) (fun _ hk => hk.2) (.int .i64 t398)) (fun _ h_ => h_.1)))); (case side4 => exact (Kd.R_reads' HO_374001.out).2.1); rintro e w100 ⟨v402, v405, v408, v411, rfl, ho0, ho1, ho2, ho3, hb⟩; refine ⟨_, rfl, ?_⟩; have n0_ := Aside0.mk (Kd.R_mono (Kd.R_told (Kd.R_told (Kd.R_told (Kd.R_told (Kd.R_old (qR (Kd.R_mono (Kd.R_far (p := ⟨gb400, 4, none⟩) (Kd.R_far (p := ⟨gb400, 3, none⟩) (Kd.R_far (p := ⟨gb400, 2, none⟩) (Kd.R_far (p := ⟨gb400, 1, none⟩) (Kd.R_far (p := ⟨gb400, 0, none⟩) (Kd.R_types HO_374000.out BK400.out (by decide)) (fun _ hk => hk.2) (.slice Ao89 t386.length co89)) (fun _ hk => hk.2) (.slice Ao94 t389.length co94)) (fun _ hk => hk.2) (.slice Ao95 t392.length co95)) (fun _ hk => hk.2) (.slice Ao96 t395.length co96)) (fun _ hk => hk.2) (.int .i64 t398)) (fun _ h_ => h_.1))) hb) (Kd.R_base ho0)) (Kd.R_base ho1)) (Kd.R_base ho2)) (Kd.R_base ho3)) (fun _ h_ => h_.1)); have n1_ := Aside0.mk (Kd.R_mono (Kd.R_told (Kd.R_told (Kd.R_told (Kd.R_told (Kd.R_old (qR (Kd.R_mono (Kd.R_far (p := ⟨gb400, 4, none⟩) (Kd.R_far (p := ⟨gb400, 3, none⟩) (Kd.R_far (p := ⟨gb400, 2, none⟩) (Kd.R_far (p := ⟨gb400, 1, none⟩) (Kd.R_far (p := ⟨gb400, 0, none⟩) (Kd.R_types HO_374001.out BK400.out (by decide)) (fun _ hk => hk.2) (.slice Ao89 t386.length co89)) (fun _ hk => hk.2) (.slice Ao94 t389.length co94)) (fun _ hk => hk.2) (.slice Ao95 t392.length co95)) (fun _ hk => hk.2) (.slice Ao96 t395.length co96)) (fun _ hk => hk.2) (.int .i64 t398)) (fun _ h_ => h_.1))) hb) (Kd.R_base ho0)) (Kd.R_base ho1)) (Kd.R_base ho2)) (Kd.R_base ho3)) (fun _ h_ => h_.1)); have n2_ := Aside0.mk (Kd.R_mono (Kd.R_told (Kd.R_told (Kd.R_told (Kd.R_told (Kd.R_old (qR (Kd.R_mono (Kd.R_far (p := ⟨gb400, 4, none⟩) (Kd.R_far (p := ⟨gb400, 3, none⟩) (Kd.R_far (p := ⟨gb400, 2, none⟩) (Kd.R_far (p := ⟨gb400, 1, none⟩) (Kd.R_far (p := ⟨gb400, 0, none⟩) (Kd.R_types HO388.out BK400.out (by decide)) (fun _ hk => hk.2) (.slice Ao89 t386.length co89)) (fun _ hk => hk.2) (.slice Ao94 t389.length co94)) (fun _ hk => hk.2) (.slice Ao95 t392.length co95)) (fun _ hk => hk.2) (.slice Ao96 t395.length co96)) (fun _ hk => hk.2) (.int .i64 t398)) (fun _ h_ => h_.1))) hb) (Kd.R_base ho0)) (Kd.R_base ho1)) (Kd.R_base ho2)) (Kd.R_base ho3)) (fun _ h_ => h_.1)); have n3_ := Aside0.mk (Kd.R_mono (Kd.R_told (Kd.R_told (Kd.R_told (Kd.R_told (Kd.R_old (qR (Kd.R_mono (Kd.R_far (p := ⟨gb400, 4, none⟩) (Kd.R_far (p := ⟨gb400, 3, none⟩) (Kd.R_far (p := ⟨gb400, 2, none⟩) (Kd.R_far (p := ⟨gb400, 1, none⟩) (Kd.R_far (p := ⟨gb400, 0, none⟩) (Kd.R_types HO391.out BK400.out (by decide)) (fun _ hk => hk.2) (.slice Ao89 t386.length co89)) (fun _ hk => hk.2) (.slice Ao94 t389.length co94)) (fun _ hk => hk.2) (.slice Ao95 t392.length co95)) (fun _ hk => hk.2) (.slice Ao96 t395.length co96)) (fun _ hk => hk.2) (.int .i64 t398)) (fun _ h_ => h_.1))) hb) (Kd.R_base ho0)) (Kd.R_base ho1)) (Kd.R_base ho2)) (Kd.R_base ho3)) (fun _ h_ => h_.1)); have n4_ := Aside0.mk (Kd.R_mono (Kd.R_told (Kd.R_told (Kd.R_told (Kd.R_told (Kd.R_old (qR (Kd.R_mono (Kd.R_far (p := ⟨gb400, 4, none⟩) (Kd.R_far (p := ⟨gb400, 3, none⟩) (Kd.R_far (p := ⟨gb400, 2, none⟩) (Kd.R_far (p := ⟨gb400, 1, none⟩) (Kd.R_far (p := ⟨gb400, 0, none⟩) (Kd.R_types HO394.out BK400.out (by decide)) (fun _ hk => hk.2) (.slice Ao89 t386.length co89)) (fun _ hk => hk.2) (.slice Ao94 t389.length co94)) (fun _ hk => hk.2) (.slice Ao95 t392.length co95)) (fun _ hk => hk.2) (.slice Ao96 t395.length co96)) (fun _ hk => hk.2) (.int .i64 t398)) (fun _ h_ => h_.1))) hb) (Kd.R_base ho0)) (Kd.R_base ho1)) (Kd.R_base ho2)) (Kd.R_base ho3)) (fun _ h_ => h_.1)); have n5_ := Aside0.mk (Kd.R_mono (Kd.R_told (Kd.R_told (Kd.R_told (Kd.R_told (Kd.R_old (qR (Kd.R_mono (Kd.R_far (p := ⟨gb400, 4, none⟩) (Kd.R_far (p := ⟨gb400, 3, none⟩) (Kd.R_far (p := ⟨gb400, 2, none⟩) (Kd.R_far (p := ⟨gb400, 1, none⟩) (Kd.R_far (p := ⟨gb400, 0, none⟩) (Kd.R_types HO397.out BK400.out (by decide)) (fun _ hk => hk.2) (.slice Ao89 t386.length co89)) (fun _ hk => hk.2) (.slice Ao94 t389.length co94)) (fun _ hk => hk.2) (.slice Ao95 t392.length co95)) (fun _ hk => hk.2) (.slice Ao96 t395.length co96)) (fun _ hk => hk.2) (.int .i64 t398)) (fun _ h_ => h_.1))) hb) (Kd.R_base ho0)) (Kd.R_base ho1)) (Kd.R_base ho2)) (Kd.R_base ho3)) (fun _ h_ => h_.1)); have n6_ := Aside0.mk (Kd.R_lower (Kd.R_new' (Kd.R_new' (Kd.R_new' (Kd.R_new' (Kd.R_new' (Kd.R_new' ho0 (Kd.R_lt (qR (Kd.R_mono (Kd.R_far (p := ⟨gb400, 4, none⟩) (Kd.R_far (p := ⟨gb400, 3, none⟩) (Kd.R_far (p := ⟨gb400, 2, none⟩) (Kd.R_far (p := ⟨gb400, 1, none⟩) (Kd.R_far (p := ⟨gb400, 0, none⟩) (Kd.R_types HO_374000.out BK400.out (by decide)) (fun _ hk => hk.2) (.slice Ao89 t386.length co89)) (fun _ hk => hk.2) (.slice Ao94 t389.length co94)) (fun _ hk => hk.2) (.slice Ao95 t392.length co95)) (fun _ hk => hk.2) (.slice Ao96 t395.length co96)) (fun _ hk => hk.2) (.int .i64 t398)) (fun _ h_ => h_.1))))) (Kd.R_lt (qR (Kd.R_mono (Kd.R_far (p := ⟨gb400, 4, none⟩) (Kd.R_far (p := ⟨gb400, 3, none⟩) (Kd.R_far (p := ⟨gb400, 2, none⟩) (Kd.R_far (p := ⟨gb400, 1, none⟩) (Kd.R_far (p := ⟨gb400, 0, none⟩) (Kd.R_types HO_374001.out BK400.out (by decide)) (fun _ hk => hk.2) (.slice Ao89 t386.length co89)) (fun _ hk => hk.2) (.slice Ao94 t389.length co94)) (fun _ hk => hk.2) (.slice Ao95 t392.length co95)) (fun _ hk => hk.2) (.slice Ao96 t395.length co96)) (fun _ hk => hk.2) (.int .i64 t398)) (fun _ h_ => h_.1))))) (Kd.R_lt (qR (Kd.R_mono (Kd.R_far (p := ⟨gb400, 4, none⟩) (Kd.R_far (p := ⟨gb400, 3, none⟩) (Kd.R_far (p := ⟨gb400, 2, none⟩) (Kd.R_far (p := ⟨gb400, 1, none⟩) (Kd.R_far (p := ⟨gb400, 0, none⟩) (Kd.R_types HO388.out BK400.out (by decide)) (fun _ hk => hk.2) (.slice Ao89 t386.length co89)) (fun _ hk => hk.2) (.slice Ao94 t389.length co94)) (fun _ hk => hk.2) (.slice Ao95 t392.length co95)) (fun _ hk => hk.2) (.slice Ao96 t395.length co96)) (fun _ hk => hk.2) (.int .i64 t398)) (fun _ h_ => h_.1))))) (Kd.R_lt (qR (Kd.R_mono (Kd.R_far (p := ⟨gb400, 4, none⟩) (Kd.R_far (p := ⟨gb400, 3, none⟩) (Kd.R_far (p := ⟨gb400, 2, none⟩) (Kd.R_far (p := ⟨gb400, 1, none⟩) (Kd.R_far (p := ⟨gb400, 0, none⟩) (Kd.R_types HO391.out BK400.out (by decide)) (fun _ hk => hk.2) (.slice Ao89 t386.length co89)) (fun _ hk => hk.2) (.slice Ao94 t389.length co94)) (fun _ hk => hk.2) (.slice Ao95 t392.length co95)) (fun _ hk => hk.2) (.slice Ao96 t395.length co96)) (fun _ hk => hk.2) (.int .i64 t398)) (fun _ h_ => h_.1))))) (Kd.R_lt (qR (Kd.R_mono (Kd.R_far (p := ⟨gb400, 4, none⟩) (Kd.R_far (p := ⟨gb400, 3, none⟩) (Kd.R_far (p := ⟨gb400, 2, none⟩) (Kd.R_far (p := ⟨gb400, 1, none⟩) (Kd.R_far (p := ⟨gb400, 0, none⟩) (Kd.R_types HO394.out BK400.out (by decide)) (fun _ hk => hk.2) (.slice Ao89 t386.length co89)) (fun _ hk => hk.2) (.slice Ao94 t389.length co94)) (fun _ hk => hk.2) (.slice Ao95 t392.length co95)) (fun _ hk => hk.2) (.slice Ao96 t395.length co96)) (fun _ hk => hk.2) (.int .i64 t398)) (fun _ h_ => h_.1))))) (Kd.R_lt (qR (Kd.R_mono (Kd.R_far (p := ⟨gb400, 4, none⟩) (Kd.R_far (p := ⟨gb400, 3, none⟩) (Kd.R_far (p := ⟨gb400, 2, none⟩) (Kd.R_far (p := ⟨gb400, 1, none⟩) (Kd.R_far (p := ⟨gb400, 0, none⟩) (Kd.R_types HO397.out BK400.out (by decide)) (fun _ hk => hk.2) (.slice Ao89 t386.length co89)) (fun _ hk => hk.2) (.slice Ao94 t389.length co94)) (fun _ hk => hk.2) (.slice Ao95 t392.length co95)) (fun _ hk => hk.2) (.slice Ao96 t395.length co96)) (fun _ hk => hk.2) (.int .i64 t398)) (fun _ h_ => h_.1))))) (below_size (qW HB.out))); have n7_ := Aside0.mk (Kd.R_lower (Kd.R_new' (Kd.R_new' (Kd.R_new' (Kd.R_new' (Kd.R_new' (Kd.R_new' ho1 (Kd.R_lt (qR (Kd.R_mono (Kd.R_far (p := ⟨gb400, 4, none⟩) (Kd.R_far (p := ⟨gb400, 3, none⟩) (Kd.R_far (p := ⟨gb400, 2, none⟩) (Kd.R_far (p := ⟨gb400, 1, none⟩) (Kd.R_far (p := ⟨gb400, 0, none⟩) (Kd.R_types HO_374000.out BK400.out (by decide)) (fun _ hk => hk.2) (.slice Ao89 t386.length co89)) (fun _ hk => hk.2) (.slice Ao94 t389.length co94)) (fun _ hk => hk.2) (.slice Ao95 t392.length co95)) (fun _ hk => hk.2) (.slice Ao96 t395.length co96)) (fun _ hk => hk.2) (.int .i64 t398)) (fun _ h_ => h_.1))))) (Kd.R_lt (qR (Kd.R_mono (Kd.R_far (p := ⟨gb400, 4, none⟩) (Kd.R_far (p := ⟨gb400, 3, none⟩) (Kd.R_far (p := ⟨gb400, 2, none⟩) (Kd.R_far (p := ⟨gb400, 1, none⟩) (Kd.R_far (p := ⟨gb400, 0, none⟩) (Kd.R_types HO_374001.out BK400.out (by decide)) (fun _ hk => hk.2) (.slice Ao89 t386.length co89)) (fun _ hk => hk.2) (.slice Ao94 t389.length co94)) (fun _ hk => hk.2) (.slice Ao95 t392.length co95)) (fun _ hk => hk.2) (.slice Ao96 t395.length co96)) (fun _ hk => hk.2) (.int .i64 t398)) (fun _ h_ => h_.1))))) (Kd.R_lt (qR (Kd.R_mono (Kd.R_far (p := ⟨gb400, 4, none⟩) (Kd.R_far (p := ⟨gb400, 3, none⟩) (Kd.R_far (p := ⟨gb400, 2, none⟩) (Kd.R_far (p := ⟨gb400, 1, none⟩) (Kd.R_far (p := ⟨gb400, 0, none⟩) (Kd.R_types HO388.out BK400.out (by decide)) (fun _ hk => hk.2) (.slice Ao89 t386.length co89)) (fun _ hk => hk.2) (.slice Ao94 t389.length co94)) (fun _ hk => hk.2) (.slice Ao95 t392.length co95)) (fun _ hk => hk.2) (.slice Ao96 t395.length co96)) (fun _ hk => hk.2) (.int .i64 t398)) (fun _ h_ => h_.1))))) (Kd.R_lt (qR (Kd.R_mono (Kd.R_far (p := ⟨gb400, 4, none⟩) (Kd.R_far (p := ⟨gb400, 3, none⟩) (Kd.R_far (p := ⟨gb400, 2, none⟩) (Kd.R_far (p := ⟨gb400, 1, none⟩) (Kd.R_far (p := ⟨gb400, 0, none⟩) (Kd.R_types HO391.out BK400.out (by decide)) (fun _ hk => hk.2) (.slice Ao89 t386.length co89)) (fun _ hk => hk.2) (.slice Ao94 t389.length co94)) (fun _ hk => hk.2) (.slice Ao95 t392.length co95)) (fun _ hk => hk.2) (.slice Ao96 t395.length co96)) (fun _ hk => hk.2) (.int .i64 t398)) (fun _ h_ => h_.1))))) (Kd.R_lt (qR (Kd.R_mono (Kd.R_far (p := ⟨gb400, 4, none⟩) (Kd.R_far (p := ⟨gb400, 3, none⟩) (Kd.R_far (p := ⟨gb400, 2, none⟩) (Kd.R_far (p := ⟨gb400, 1, none⟩) (Kd.R_far (p := ⟨gb400, 0, none⟩) (Kd.R_types HO394.out BK400.out (by decide)) (fun _ hk => hk.2) (.slice Ao89 t386.length co89)) (fun _ hk => hk.2) (.slice Ao94 t389.length co94)) (fun _ hk => hk.2) (.slice Ao95 t392.length co95)) (fun _ hk => hk.2) (.slice Ao96 t395.length co96)) (fun _ hk => hk.2) (.int .i64 t398)) (fun _ h_ => h_.1))))) (Kd.R_lt (qR (Kd.R_mono (Kd.R_far (p := ⟨gb400, 4, none⟩) (Kd.R_far (p := ⟨gb400, 3, none⟩) (Kd.R_far (p := ⟨gb400, 2, none⟩) (Kd.R_far (p := ⟨gb400, 1, none⟩) (Kd.R_far (p := ⟨gb400, 0, none⟩) (Kd.R_types HO397.out BK400.out (by decide)) (fun _ hk => hk.2) (.slice Ao89 t386.length co89)) (fun _ hk => hk.2) (.slice Ao94 t389.length co94)) (fun _ hk => hk.2) (.slice Ao95 t392.length co95)) (fun _ hk => hk.2) (.slice Ao96 t395.length co96)) (fun _ hk => hk.2) (.int .i64 t398)) (fun _ h_ => h_.1))))) (below_size (qW HB.out))); have n8_ := Aside0.mk (Kd.R_lower (Kd.R_new' (Kd.R_new' (Kd.R_new' (Kd.R_new' (Kd.R_new' (Kd.R_new' ho2 (Kd.R_lt (qR (Kd.R_mono (Kd.R_far (p := ⟨gb400, 4, none⟩) (Kd.R_far (p := ⟨gb400, 3, none⟩) (Kd.R_far (p := ⟨gb400, 2, none⟩) (Kd.R_far (p := ⟨gb400, 1, none⟩) (Kd.R_far (p := ⟨gb400, 0, none⟩) (Kd.R_types HO_374000.out BK400.out (by decide)) (fun _ hk => hk.2) (.slice Ao89 t386.length co89)) (fun _ hk => hk.2) (.slice Ao94 t389.length co94)) (fun _ hk => hk.2) (.slice Ao95 t392.length co95)) (fun _ hk => hk.2) (.slice Ao96 t395.length co96)) (fun _ hk => hk.2) (.int .i64 t398)) (fun _ h_ => h_.1))))) (Kd.R_lt (qR (Kd.R_mono (Kd.R_far (p := ⟨gb400, 4, none⟩) (Kd.R_far (p := ⟨gb400, 3, none⟩) (Kd.R_far (p := ⟨gb400, 2, none⟩) (Kd.R_far (p := ⟨gb400, 1, none⟩) (Kd.R_far (p := ⟨gb400, 0, none⟩) (Kd.R_types HO_374001.out BK400.out (by decide)) (fun _ hk => hk.2) (.slice Ao89 t386.length co89)) (fun _ hk => hk.2) (.slice Ao94 t389.length co94)) (fun _ hk => hk.2) (.slice Ao95 t392.length co95)) (fun _ hk => hk.2) (.slice Ao96 t395.length co96)) (fun _ hk => hk.2) (.int .i64 t398)) (fun _ h_ => h_.1))))) (Kd.R_lt (qR (Kd.R_mono (Kd.R_far (p := ⟨gb400, 4, none⟩) (Kd.R_far (p := ⟨gb400, 3, none⟩) (Kd.R_far (p := ⟨gb400, 2, none⟩) (Kd.R_far (p := ⟨gb400, 1, none⟩) (Kd.R_far (p := ⟨gb400, 0, none⟩) (Kd.R_types HO388.out BK400.out (by decide)) (fun _ hk => hk.2) (.slice Ao89 t386.length co89)) (fun _ hk => hk.2) (.slice Ao94 t389.length co94)) (fun _ hk => hk.2) (.slice Ao95 t392.length co95)) (fun _ hk => hk.2) (.slice Ao96 t395.length co96)) (fun _ hk => hk.2) (.int .i64 t398)) (fun _ h_ => h_.1))))) (Kd.R_lt (qR (Kd.R_mono (Kd.R_far (p := ⟨gb400, 4, none⟩) (Kd.R_far (p := ⟨gb400, 3, none⟩) (Kd.R_far (p := ⟨gb400, 2, none⟩) (Kd.R_far (p := ⟨gb400, 1, none⟩) (Kd.R_far (p := ⟨gb400, 0, none⟩) (Kd.R_types HO391.out BK400.out (by decide)) (fun _ hk => hk.2) (.slice Ao89 t386.length co89)) (fun _ hk => hk.2) (.slice Ao94 t389.length co94)) (fun _ hk => hk.2) (.slice Ao95 t392.length co95)) (fun _ hk => hk.2) (.slice Ao96 t395.length co96)) (fun _ hk => hk.2) (.int .i64 t398)) (fun _ h_ => h_.1))))) (Kd.R_lt (qR (Kd.R_mono (Kd.R_far (p := ⟨gb400, 4, none⟩) (Kd.R_far (p := ⟨gb400, 3, none⟩) (Kd.R_far (p := ⟨gb400, 2, none⟩) (Kd.R_far (p := ⟨gb400, 1, none⟩) (Kd.R_far (p := ⟨gb400, 0, none⟩) (Kd.R_types HO394.out BK400.out (by decide)) (fun _ hk => hk.2) (.slice Ao89 t386.length co89)) (fun _ hk => hk.2) (.slice Ao94 t389.length co94)) (fun _ hk => hk.2) (.slice Ao95 t392.length co95)) (fun _ hk => hk.2) (.slice Ao96 t395.length co96)) (fun _ hk => hk.2) (.int .i64 t398)) (fun _ h_ => h_.1))))) (Kd.R_lt (qR (Kd.R_mono (Kd.R_far (p := ⟨gb400, 4, none⟩) (Kd.R_far (p := ⟨gb400, 3, none⟩) (Kd.R_far (p := ⟨gb400, 2, none⟩) (Kd.R_far (p := ⟨gb400, 1, none⟩) (Kd.R_far (p := ⟨gb400, 0, none⟩) (Kd.R_types HO397.out BK400.out (by decide)) (fun _ hk => hk.2) (.slice Ao89 t386.length co89)) (fun _ hk => hk.2) (.slice Ao94 t389.length co94)) (fun _ hk => hk.2) (.slice Ao95 t392.length co95)) (fun _ hk => hk.2) (.slice Ao96 t395.length co96)) (fun _ hk => hk.2) (.int .i64 t398)) (fun _ h_ => h_.1))))) (below_size (qW HB.out))); have n9_ := Aside0.mk (Kd.R_lower (Kd.R_new' (Kd.R_new' (Kd.R_new' (Kd.R_new' (Kd.R_new' (Kd.R_new' ho3 (Kd.R_lt (qR (Kd.R_mono (Kd.R_far (p := ⟨gb400, 4, none⟩) (Kd.R_far (p := ⟨gb400, 3, none⟩) (Kd.R_far (p := ⟨gb400, 2, none⟩) (Kd.R_far (p := ⟨gb400, 1, none⟩) (Kd.R_far (p := ⟨gb400, 0, none⟩) (Kd.R_types HO_374000.out BK400.out (by decide)) (fun _ hk => hk.2) (.slice Ao89 t386.length co89)) (fun _ hk => hk.2) (.slice Ao94 t389.length co94)) (fun _ hk => hk.2) (.slice Ao95 t392.length co95)) (fun _ hk => hk.2) (.slice Ao96 t395.length co96)) (fun _ hk => hk.2) (.int .i64 t398)) (fun _ h_ => h_.1))))) (Kd.R_lt (qR (Kd.R_mono (Kd.R_far (p := ⟨gb400, 4, none⟩) (Kd.R_far (p := ⟨gb400, 3, none⟩) (Kd.R_far (p := ⟨gb400, 2, none⟩) (Kd.R_far (p := ⟨gb400, 1, none⟩) (Kd.R_far (p := ⟨gb400, 0, none⟩) (Kd.R_types HO_374001.out BK400.out (by decide)) (fun _ hk => hk.2) (.slice Ao89 t386.length co89)) (fun _ hk => hk.2) (.slice Ao94 t389.length co94)) (fun _ hk => hk.2) (.slice Ao95 t392.length co95)) (fun _ hk => hk.2) (.slice Ao96 t395.length co96)) (fun _ hk => hk.2) (.int .i64 t398)) (fun _ h_ => h_.1))))) (Kd.R_lt (qR (Kd.R_mono (Kd.R_far (p := ⟨gb400, 4, none⟩) (Kd.R_far (p := ⟨gb400, 3, none⟩) (Kd.R_far (p := ⟨gb400, 2, none⟩) (Kd.R_far (p := ⟨gb400, 1, none⟩) (Kd.R_far (p := ⟨gb400, 0, none⟩) (Kd.R_types HO388.out BK400.out (by decide)) (fun _ hk => hk.2) (.slice Ao89 t386.length co89)) (fun _ hk => hk.2) (.slice Ao94 t389.length co94)) (fun _ hk => hk.2) (.slice Ao95 t392.length co95)) (fun _ hk => hk.2) (.slice Ao96 t395.length co96)) (fun _ hk => hk.2) (.int .i64 t398)) (fun _ h_ => h_.1))))) (Kd.R_lt (qR (Kd.R_mono (Kd.R_far (p := ⟨gb400, 4, none⟩) (Kd.R_far (p := ⟨gb400, 3, none⟩) (Kd.R_far (p := ⟨gb400, 2, none⟩) (Kd.R_far (p := ⟨gb400, 1, none⟩) (Kd.R_far (p := ⟨gb400, 0, none⟩) (Kd.R_types HO391.out BK400.out (by decide)) (fun _ hk => hk.2) (.slice Ao89 t386.length co89)) (fun _ hk => hk.2) (.slice Ao94 t389.length co94)) (fun _ hk => hk.2) (.slice Ao95 t392.length co95)) (fun _ hk => hk.2) (.slice Ao96 t395.length co96)) (fun _ hk => hk.2) (.int .i64 t398)) (fun _ h_ => h_.1))))) (Kd.R_lt (qR (Kd.R_mono (Kd.R_far (p := ⟨gb400, 4, none⟩) (Kd.R_far (p := ⟨gb400, 3, none⟩) (Kd.R_far (p := ⟨gb400, 2, none⟩) (Kd.R_far (p := ⟨gb400, 1, none⟩) (Kd.R_far (p := ⟨gb400, 0, none⟩) (Kd.R_types HO394.out BK400.out (by decide)) (fun _ hk => hk.2) (.slice Ao89 t386.length co89)) (fun _ hk => hk.2) (.slice Ao94 t389.length co94)) (fun _ hk => hk.2) (.slice Ao95 t392.length co95)) (fun _ hk => hk.2) (.slice Ao96 t395.length co96)) (fun _ hk => hk.2) (.int .i64 t398)) (fun _ h_ => h_.1))))) (Kd.R_lt (qR (Kd.R_mono (Kd.R_far (p := ⟨gb400, 4, none⟩) (Kd.R_far (p := ⟨gb400, 3, none⟩) (Kd.R_far (p := ⟨gb400, 2, none⟩) (Kd.R_far (p := ⟨gb400, 1, none⟩) (Kd.R_far (p := ⟨gb400, 0, none⟩) (Kd.R_types HO397.out BK400.out (by decide)) (fun _ hk => hk.2) (.slice Ao89 t386.length co89)) (fun _ hk => hk.2) (.slice Ao94 t389.length co94)) (fun _ hk => hk.2) (.slice Ao95 t392.length co95)) (fun _ hk => hk.2) (.slice Ao96 t395.length co96)) (fun _ hk => hk.2) (.int .i64 t398)) (fun _ h_ => h_.1))))) (below_size (qW HB.out))); have n10_ := Aside0.mk (blk_below (g := gb367) (o := .cells #[.slice A0_0 l0_0.length c0_0, .slice A0_1 l0_1.length c0_1, .int .i64 a0_2, .int .i64 a0_3, .int .i64 a0_4] 24 (0, 0)) (by (with_reducible repeat (first | refine blk_drewN ?_ _ | refine blk_drew ?_ | refine blk_alloc ?_ _)); refine blk_far ?_ NB367_400.out _; (with_reducible repeat (first | refine blk_drewN ?_ _ | refine blk_drew ?_ | refine blk_alloc ?_ _)); refine blk_far ?_ NB367_400.out _; (with_reducible repeat (first | refine blk_drewN ?_ _ | refine blk_drew ?_ | refine blk_alloc ?_ _)); refine blk_far ?_ NB367_400.out _; (with_reducible repeat (first | refine blk_drewN ?_ _ | refine blk_drew ?_ | refine blk_alloc ?_ _)); refine blk_far ?_ NB367_400.out _; (with_reducible repeat (first | refine blk_drewN ?_ _ | refine blk_drew ?_ | refine blk_alloc ?_ _)); refine blk_far ?_ NB367_400.out _; exact qB BK367.out) hb); have n11_ := Aside0.mk (blk_below (g := gb368) (o := .cells #[.slice A1_0 l1_0.length c1_0, .slice A1_1 l1_1.length c1_1, .int .u8 a1_2] 49 (0, 0)) (by (with_reducible repeat (first | refine blk_drewN ?_ _ | refine blk_drew ?_ | refine blk_alloc ?_ _)); refine blk_far ?_ NB368_400.out _; (with_reducible repeat (first | refine blk_drewN ?_ _ | refine blk_drew ?_ | refine blk_alloc ?_ _)); refine blk_far ?_ NB368_400.out _; (with_reducible repeat (first | refine blk_drewN ?_ _ | refine blk_drew ?_ | refine blk_alloc ?_ _)); refine blk_far ?_ NB368_400.out _; (with_reducible repeat (first | refine blk_drewN ?_ _ | refine blk_drew ?_ | refine blk_alloc ?_ _)); refine blk_far ?_ NB368_400.out _; (with_reducible repeat (first | refine blk_drewN ?_ _ | refine blk_drew ?_ | refine blk_alloc ?_ _)); refine blk_far ?_ NB368_400.out _; exact qB BK368.out) hb); have n12_ := Aside0.mk (blk_below (g := gb373) (o := .cells #[.slice Ao98 x374000_3.length co98, .slice Ao99 x374001_3.length co99, .int .i64 a0_2, .int .i64 ji74, .int .i64 a0_4] 24 (0, 0)) (by (with_reducible repeat (first | refine blk_drewN ?_ _ | refine blk_drew ?_ | refine blk_alloc ?_ _)); refine blk_far ?_ NB373_400.out _; (with_reducible repeat (first | refine blk_drewN ?_ _ | refine blk_drew ?_ | refine blk_alloc ?_ _)); refine blk_far ?_ NB373_400.out _; (with_reducible repeat (first | refine blk_drewN ?_ _ | refine blk_drew ?_ | refine blk_alloc ?_ _)); refine blk_far ?_ NB373_400.out _; (with_reducible repeat (first | refine blk_drewN ?_ _ | refine blk_drew ?_ | refine blk_alloc ?_ _)); refine blk_far ?_ NB373_400.out _; (with_reducible repeat (first | refine blk_drewN ?_ _ | refine blk_drew ?_ | refine blk_alloc ?_ _)); refine blk_far ?_ NB373_400.out _; exact qB BK373.out) hb); have n13_ := Aside0.mk (blk_below (g := gb400) (o := .cells #[.slice Ao89 t386.length co89, .slice Ao94 t389.length co94, .slice Ao95 t392.length co95, .slice Ao96 t395.length co96, .int .i64 t398] 28 (0, 0)) (by (with_reducible repeat (first | refine blk_drewN ?_ _ | refine blk_drew ?_ | refine blk_alloc ?_ _)); refine blk_put (cs := #[.slice Ao89 t386.length co89, .slice Ao94 t389.length co94, .slice Ao95 t392.length co95, .slice Ao96 t395.length co96, .int .i64 0]) ?_ 4 _ rfl; (with_reducible repeat (first | refine blk_drewN ?_ _ | refine blk_drew ?_ | refine blk_alloc ?_ _)); refine blk_put (cs := #[.slice Ao89 t386.length co89, .slice Ao94 t389.length co94, .slice Ao95 t392.length co95, .slice none 0 0, .int .i64 0]) ?_ 3 _ rfl; (with_reducible repeat (first | refine blk_drewN ?_ _ | refine blk_drew ?_ | refine blk_alloc ?_ _)); refine blk_put (cs := #[.slice Ao89 t386.length co89, .slice Ao94 t389.length co94, .slice none 0 0, .slice none 0 0, .int .i64 0]) ?_ 2 _ rfl; (with_reducible repeat (first | refine blk_drewN ?_ _ | refine blk_drew ?_ | refine blk_alloc ?_ _)); refine blk_put (cs := #[.slice Ao89 t386.length co89, .slice none 0 0, .slice none 0 0, .slice none 0 0, .int .i64 0]) ?_ 1 _ rfl; (with_reducible repeat (first | refine blk_drewN ?_ _ | refine blk_drew ?_ | refine blk_alloc ?_ _)); refine blk_put (cs := #[.slice none 0 0, .slice none 0 0, .slice none 0 0, .slice none 0 0, .int .i64 0]) ?_ 0 _ rfl; exact qB BK400.out) hb); have n14_ := Aside0.mk (below_step (qW HB.out) hb); clear HO_374000 HO_374001 HO388 HO391 HO394 HO397 BK367 BK368 BK373 BK400 HB; have HO_374000 := n0_; have HO_374001 := n1_; have HO388 := n2_; have HO391 := n3_; have HO394 := n4_; have HO397 := n5_; have HO403 := n6_; have HO406 := n7_; have HO409 := n8_; have HO412 := n9_; have BK367 := n10_; have BK368 := n11_; have BK373 := n12_; have BK400 := n13_; have HB := n14_; clear n0_ n1_ n2_ n3_ n4_ n5_ n6_ n7_ n8_ n9_ n10_ n11_ n12_ n13_ n14_; (try clear hb); (try clear hb2); (try clear hk); (try clear hi); (try clear ho0); (try clear ho1); (try clear ho2); (try clear ho3)) | ((with_reducible refine gate_dst (N := 12) rfl ?_); (try (refine gate_guard (by rfl) ?_; dsimp only)); refine box_event ?hg (N := 12) ?hd (cs := #[.slice none 0 0, .slice none 0 0, .slice none 0 0, .slice none 0 0, .int .i64 0]) (t := 28) ?hr ?_; (case hd => rfl); (case hg => rfl); (case hr => first | (go_simp; done) | (go_simp; rfl)); intro gb415 hg w101 hbox hb; have n0_ := Aside0.mk (Kd.R_below (qR HO_374000.out) hb); have n1_ := Aside0.mk (Kd.R_below (qR HO_374001.out) hb); have n2_ := Aside0.mk (Kd.R_below (qR HO388.out) hb); have n3_ := Aside0.mk (Kd.R_below (qR HO391.out) hb); have n4_ := Aside0.mk (Kd.R_below (qR HO394.out) hb); have n5_ := Aside0.mk (Kd.R_below (qR HO397.out) hb); have n6_ := Aside0.mk (Kd.R_below (qR HO403.out) hb); have n7_ := Aside0.mk (Kd.R_below (qR HO406.out) hb); have n8_ := Aside0.mk (Kd.R_below (qR HO409.out) hb); have n9_ := Aside0.mk (Kd.R_below (qR HO412.out) hb); have n10_ := Aside0.mk (blk_below (qB BK367.out) hb); have n11_ := Aside0.mk (blk_below (qB BK368.out) hb); have n12_ := Aside0.mk (blk_below (qB BK373.out) hb); have n13_ := Aside0.mk (blk_below (qB BK400.out) hb); have n14_ := Aside0.mk (below_step (qW HB.out) hb); have n15_ := Aside0.mk (hbox); have n16_ := Aside0.mk ((by rw [hg]; exact (below_size (qW HB.out)) : w.heap.size ≤ gb415)); have n17_ := Aside0.mk ((by rw [hg]; exact (below_size (qW HB.out)) : w.heap.size ≤ gb415)); have n18_ := Aside0.mk ((by rw [hg]; exact Nat.ne_of_lt (blk_lt (qB BK367.out)) : gb367 ≠ gb415)); have n19_ := Aside0.mk ((by rw [hg]; exact Nat.ne_of_gt (blk_lt (qB BK367.out)) : gb415 ≠ gb367)); have n20_ := Aside0.mk ((by rw [hg]; exact Nat.ne_of_lt (blk_lt (qB BK368.out)) : gb368 ≠ gb415)); have n21_ := Aside0.mk ((by rw [hg]; exact Nat.ne_of_gt (blk_lt (qB BK368.out)) : gb415 ≠ gb368)); have n22_ := Aside0.mk ((by rw [hg]; exact Nat.ne_of_lt (blk_lt (qB BK373.out)) : gb373 ≠ gb415)); have n23_ := Aside0.mk ((by rw [hg]; exact Nat.ne_of_gt (blk_lt (qB BK373.out)) : gb415 ≠ gb373)); have n24_ := Aside0.mk ((by rw [hg]; exact Nat.ne_of_lt (blk_lt (qB BK400.out)) : gb400 ≠ gb415)); have n25_ := Aside0.mk ((by rw [hg]; exact Nat.ne_of_gt (blk_lt (qB BK400.out)) : gb415 ≠ gb400)); clear HO_374000 HO_374001 HO388 HO391 HO394 HO397 HO403 HO406 HO409 HO412 BK367 BK368 BK373 BK400 HB; have HO_374000 := n0_; have HO_374001 := n1_; have HO388 := n2_; have HO391 := n3_; have HO394 := n4_; have HO397 := n5_; have HO403 := n6_; have HO406 := n7_; have HO409 := n8_; have HO412 := n9_; have BK367 := n10_; have BK368 := n11_; have BK373 := n12_; have BK400 := n13_; have HB := n14_; have BK415 := n15_; have GW415 := n16_; have GE415 := n17_; have NB367_415 := n18_; have NB415_367 := n19_; have NB368_415 := n20_; have NB415_368 := n21_; have NB373_415 := n22_; have NB415_373 := n23_; have NB400_415 := n24_; have NB415_400 := n25_; clear n0_ n1_ n2_ n3_ n4_ n5_ n6_ n7_ n8_ n9_ n10_ n11_ n12_ n13_ n14_ n15_ n16_ n17_ n18_ n19_ n20_ n21_ n22_ n23_ n24_ n25_ hb hbox hg; obtain ⟨Ao102, co102, eo102⟩ := Kd.R_slice HO403.out; subst eo102; have hnb103 := NB415_367.out; have hnc103 := NB367_415.out; have hnb104 := NB415_368.out; have hnc104 := NB368_415.out; have hnb105 := NB415_373.out; have hnc105 := NB373_415.out; have hnb106 := NB415_400.out; have hnc106 := NB400_415.out; have hcz107_0 : w101.cell? ⟨gb415, 0, none⟩ = some (.slice none 0 0) := (blk_cell BK415.out 0).trans rfl; have hcz107_1 : w101.cell? ⟨gb415, 1, none⟩ = some (.slice none 0 0) := (blk_cell BK415.out 1).trans rfl; have hcz107_2 : w101.cell? ⟨gb415, 2, none⟩ = some (.slice none 0 0) := (blk_cell BK415.out 2).trans rfl; have hcz107_3 : w101.cell? ⟨gb415, 3, none⟩ = some (.slice none 0 0) := (blk_cell BK415.out 3).trans rfl; have hcz107_4 : w101.cell? ⟨gb415, 4, none⟩ = some (.int .i64 0) := (blk_cell BK415.out 4).trans rfl; have hfz107_0 := blk_frozen BK415.out 0; have hfz107_1 := blk_frozen BK415.out 1; have hfz107_2 := blk_frozen BK415.out 2; have hfz107_3 := blk_frozen BK415.out 3; have hfz107_4 := blk_frozen BK415.out 4; obtain ⟨Ao108, co108, eo108⟩ := Kd.R_slice HO406.out; subst eo108; obtain ⟨Ao109, co109, eo109⟩ := Kd.R_slice HO409.out; subst eo109; obtain ⟨Ao110, co110, eo110⟩ := Kd.R_slice HO412.out; subst eo110; have hcz111_0 : w101.cell? ⟨gb400, 0, none⟩ = some (.slice Ao89 t386.length co89) := (blk_cell BK400.out 0).trans rfl; have hcz111_1 : w101.cell? ⟨gb400, 1, none⟩ = some (.slice Ao94 t389.length co94) := (blk_cell BK400.out 1).trans rfl; have hcz111_2 : w101.cell? ⟨gb400, 2, none⟩ = some (.slice Ao95 t392.length co95) := (blk_cell BK400.out 2).trans rfl; have hcz111_3 : w101.cell? ⟨gb400, 3, none⟩ = some (.slice Ao96 t395.length co96) := (blk_cell BK400.out 3).trans rfl; have hcz111_4 : w101.cell? ⟨gb400, 4, none⟩ = some (.int .i64 t398) := (blk_cell BK400.out 4).trans rfl; have hfz111_0 := blk_frozen BK400.out 0; have hfz111_1 := blk_frozen BK400.out 1; have hfz111_2 := blk_frozen BK400.out 2; have hfz111_3 := blk_frozen BK400.out 3; have hfz111_4 := blk_frozen BK400.out 4) | (go_at_call 12; (with_reducible refine (standbylaw56_awake.calls  t416 _ A80.out).mono ?_); rintro e w112 ⟨rfl, hb⟩; have n0_ := Aside0.mk (Kd.R_below (qR (Kd.R_mono (Kd.R_far (p := ⟨gb415, 4, none⟩) (Kd.R_far (p := ⟨gb415, 3, none⟩) (Kd.R_far (p := ⟨gb415, 2, none⟩) (Kd.R_far (p := ⟨gb415, 1, none⟩) (Kd.R_far (p := ⟨gb415, 0, none⟩) (Kd.R_types HO_374000.out BK415.out (by decide)) (fun _ hk => hk.2) (.slice Ao102 t401.length co102)) (fun _ hk => hk.2) (.slice Ao108 t404.length co108)) (fun _ hk => hk.2) (.slice Ao109 t407.length co109)) (fun _ hk => hk.2) (.slice Ao110 t410.length co110)) (fun _ hk => hk.2) (.int .i64 t413)) (fun _ h_ => h_.1))) hb); have n1_ := Aside0.mk (Kd.R_below (qR (Kd.R_mono (Kd.R_far (p := ⟨gb415, 4, none⟩) (Kd.R_far (p := ⟨gb415, 3, none⟩) (Kd.R_far (p := ⟨gb415, 2, none⟩) (Kd.R_far (p := ⟨gb415, 1, none⟩) (Kd.R_far (p := ⟨gb415, 0, none⟩) (Kd.R_types HO_374001.out BK415.out (by decide)) (fun _ hk => hk.2) (.slice Ao102 t401.length co102)) (fun _ hk => hk.2) (.slice Ao108 t404.length co108)) (fun _ hk => hk.2) (.slice Ao109 t407.length co109)) (fun _ hk => hk.2) (.slice Ao110 t410.length co110)) (fun _ hk => hk.2) (.int .i64 t413)) (fun _ h_ => h_.1))) hb); have n2_ := Aside0.mk (Kd.R_below (qR (Kd.R_mono (Kd.R_far (p := ⟨gb415, 4, none⟩) (Kd.R_far (p := ⟨gb415, 3, none⟩) (Kd.R_far (p := ⟨gb415, 2, none⟩) (Kd.R_far (p := ⟨gb415, 1, none⟩) (Kd.R_far (p := ⟨gb415, 0, none⟩) (Kd.R_types HO388.out BK415.out (by decide)) (fun _ hk => hk.2) (.slice Ao102 t401.length co102)) (fun _ hk => hk.2) (.slice Ao108 t404.length co108)) (fun _ hk => hk.2) (.slice Ao109 t407.length co109)) (fun _ hk => hk.2) (.slice Ao110 t410.length co110)) (fun _ hk => hk.2) (.int .i64 t413)) (fun _ h_ => h_.1))) hb); have n3_ := Aside0.mk (Kd.R_below (qR (Kd.R_mono (Kd.R_far (p := ⟨gb415, 4, none⟩) (Kd.R_far (p := ⟨gb415, 3, none⟩) (Kd.R_far (p := ⟨gb415, 2, none⟩) (Kd.R_far (p := ⟨gb415, 1, none⟩) (Kd.R_far (p := ⟨gb415, 0, none⟩) (Kd.R_types HO391.out BK415.out (by decide)) (fun _ hk => hk.2) (.slice Ao102 t401.length co102)) (fun _ hk => hk.2) (.slice Ao108 t404.length co108)) (fun _ hk => hk.2) (.slice Ao109 t407.length co109)) (fun _ hk => hk.2) (.slice Ao110 t410.length co110)) (fun _ hk => hk.2) (.int .i64 t413)) (fun _ h_ => h_.1))) hb); have n4_ := Aside0.mk (Kd.R_below (qR (Kd.R_mono (Kd.R_far (p := ⟨gb415, 4, none⟩) (Kd.R_far (p := ⟨gb415, 3, none⟩) (Kd.R_far (p := ⟨gb415, 2, none⟩) (Kd.R_far (p := ⟨gb415, 1, none⟩) (Kd.R_far (p := ⟨gb415, 0, none⟩) (Kd.R_types HO394.out BK415.out (by decide)) (fun _ hk => hk.2) (.slice Ao102 t401.length co102)) (fun _ hk => hk.2) (.slice Ao108 t404.length co108)) (fun _ hk => hk.2) (.slice Ao109 t407.length co109)) (fun _ hk => hk.2) (.slice Ao110 t410.length co110)) (fun _ hk => hk.2) (.int .i64 t413)) (fun _ h_ => h_.1))) hb); have n5_ := Aside0.mk (Kd.R_below (qR (Kd.R_mono (Kd.R_far (p := ⟨gb415, 4, none⟩) (Kd.R_far (p := ⟨gb415, 3, none⟩) (Kd.R_far (p := ⟨gb415, 2, none⟩) (Kd.R_far (p := ⟨gb415, 1, none⟩) (Kd.R_far (p := ⟨gb415, 0, none⟩) (Kd.R_types HO397.out BK415.out (by decide)) (fun _ hk => hk.2) (.slice Ao102 t401.length co102)) (fun _ hk => hk.2) (.slice Ao108 t404.length co108)) (fun _ hk => hk.2) (.slice Ao109 t407.length co109)) (fun _ hk => hk.2) (.slice Ao110 t410.length co110)) (fun _ hk => hk.2) (.int .i64 t413)) (fun _ h_ => h_.1))) hb); have n6_ := Aside0.mk (Kd.R_below (qR (Kd.R_mono (Kd.R_far (p := ⟨gb415, 4, none⟩) (Kd.R_far (p := ⟨gb415, 3, none⟩) (Kd.R_far (p := ⟨gb415, 2, none⟩) (Kd.R_far (p := ⟨gb415, 1, none⟩) (Kd.R_far (p := ⟨gb415, 0, none⟩) (Kd.R_types HO403.out BK415.out (by decide)) (fun _ hk => hk.2) (.slice Ao102 t401.length co102)) (fun _ hk => hk.2) (.slice Ao108 t404.length co108)) (fun _ hk => hk.2) (.slice Ao109 t407.length co109)) (fun _ hk => hk.2) (.slice Ao110 t410.length co110)) (fun _ hk => hk.2) (.int .i64 t413)) (fun _ h_ => h_.1))) hb); have n7_ := Aside0.mk (Kd.R_below (qR (Kd.R_mono (Kd.R_far (p := ⟨gb415, 4, none⟩) (Kd.R_far (p := ⟨gb415, 3, none⟩) (Kd.R_far (p := ⟨gb415, 2, none⟩) (Kd.R_far (p := ⟨gb415, 1, none⟩) (Kd.R_far (p := ⟨gb415, 0, none⟩) (Kd.R_types HO406.out BK415.out (by decide)) (fun _ hk => hk.2) (.slice Ao102 t401.length co102)) (fun _ hk => hk.2) (.slice Ao108 t404.length co108)) (fun _ hk => hk.2) (.slice Ao109 t407.length co109)) (fun _ hk => hk.2) (.slice Ao110 t410.length co110)) (fun _ hk => hk.2) (.int .i64 t413)) (fun _ h_ => h_.1))) hb); have n8_ := Aside0.mk (Kd.R_below (qR (Kd.R_mono (Kd.R_far (p := ⟨gb415, 4, none⟩) (Kd.R_far (p := ⟨gb415, 3, none⟩) (Kd.R_far (p := ⟨gb415, 2, none⟩) (Kd.R_far (p := ⟨gb415, 1, none⟩) (Kd.R_far (p := ⟨gb415, 0, none⟩) (Kd.R_types HO409.out BK415.out (by decide)) (fun _ hk => hk.2) (.slice Ao102 t401.length co102)) (fun _ hk => hk.2) (.slice Ao108 t404.length co108)) (fun _ hk => hk.2) (.slice Ao109 t407.length co109)) (fun _ hk => hk.2) (.slice Ao110 t410.length co110)) (fun _ hk => hk.2) (.int .i64 t413)) (fun _ h_ => h_.1))) hb); have n9_ := Aside0.mk (Kd.R_below (qR (Kd.R_mono (Kd.R_far (p := ⟨gb415, 4, none⟩) (Kd.R_far (p := ⟨gb415, 3, none⟩) (Kd.R_far (p := ⟨gb415, 2, none⟩) (Kd.R_far (p := ⟨gb415, 1, none⟩) (Kd.R_far (p := ⟨gb415, 0, none⟩) (Kd.R_types HO412.out BK415.out (by decide)) (fun _ hk => hk.2) (.slice Ao102 t401.length co102)) (fun _ hk => hk.2) (.slice Ao108 t404.length co108)) (fun _ hk => hk.2) (.slice Ao109 t407.length co109)) (fun _ hk => hk.2) (.slice Ao110 t410.length co110)) (fun _ hk => hk.2) (.int .i64 t413)) (fun _ h_ => h_.1))) hb); have n10_ := Aside0.mk (blk_below (g := gb367) (o := .cells #[.slice A0_0 l0_0.length c0_0, .slice A0_1 l0_1.length c0_1, .int .i64 a0_2, .int .i64 a0_3, .int .i64 a0_4] 24 (0, 0)) (by (with_reducible repeat (first | refine blk_drewN ?_ _ | refine blk_drew ?_ | refine blk_alloc ?_ _)); refine blk_far ?_ NB367_415.out _; (with_reducible repeat (first | refine blk_drewN ?_ _ | refine blk_drew ?_ | refine blk_alloc ?_ _)); refine blk_far ?_ NB367_415.out _; (with_reducible repeat (first | refine blk_drewN ?_ _ | refine blk_drew ?_ | refine blk_alloc ?_ _)); refine blk_far ?_ NB367_415.out _; (with_reducible repeat (first | refine blk_drewN ?_ _ | refine blk_drew ?_ | refine blk_alloc ?_ _)); refine blk_far ?_ NB367_415.out _; (with_reducible repeat (first | refine blk_drewN ?_ _ | refine blk_drew ?_ | refine blk_alloc ?_ _)); refine blk_far ?_ NB367_415.out _; exact qB BK367.out) hb); have n11_ := Aside0.mk (blk_below (g := gb368) (o := .cells #[.slice A1_0 l1_0.length c1_0, .slice A1_1 l1_1.length c1_1, .int .u8 a1_2] 49 (0, 0)) (by (with_reducible repeat (first | refine blk_drewN ?_ _ | refine blk_drew ?_ | refine blk_alloc ?_ _)); refine blk_far ?_ NB368_415.out _; (with_reducible repeat (first | refine blk_drewN ?_ _ | refine blk_drew ?_ | refine blk_alloc ?_ _)); refine blk_far ?_ NB368_415.out _; (with_reducible repeat (first | refine blk_drewN ?_ _ | refine blk_drew ?_ | refine blk_alloc ?_ _)); refine blk_far ?_ NB368_415.out _; (with_reducible repeat (first | refine blk_drewN ?_ _ | refine blk_drew ?_ | refine blk_alloc ?_ _)); refine blk_far ?_ NB368_415.out _; (with_reducible repeat (first | refine blk_drewN ?_ _ | refine blk_drew ?_ | refine blk_alloc ?_ _)); refine blk_far ?_ NB368_415.out _; exact qB BK368.out) hb); have n12_ := Aside0.mk (blk_below (g := gb373) (o := .cells #[.slice Ao98 x374000_3.length co98, .slice Ao99 x374001_3.length co99, .int .i64 a0_2, .int .i64 ji74, .int .i64 a0_4] 24 (0, 0)) (by (with_reducible repeat (first | refine blk_drewN ?_ _ | refine blk_drew ?_ | refine blk_alloc ?_ _)); refine blk_far ?_ NB373_415.out _; (with_reducible repeat (first | refine blk_drewN ?_ _ | refine blk_drew ?_ | refine blk_alloc ?_ _)); refine blk_far ?_ NB373_415.out _; (with_reducible repeat (first | refine blk_drewN ?_ _ | refine blk_drew ?_ | refine blk_alloc ?_ _)); refine blk_far ?_ NB373_415.out _; (with_reducible repeat (first | refine blk_drewN ?_ _ | refine blk_drew ?_ | refine blk_alloc ?_ _)); refine blk_far ?_ NB373_415.out _; (with_reducible repeat (first | refine blk_drewN ?_ _ | refine blk_drew ?_ | refine blk_alloc ?_ _)); refine blk_far ?_ NB373_415.out _; exact qB BK373.out) hb); have n13_ := Aside0.mk (blk_below (g := gb400) (o := .cells #[.slice Ao89 t386.length co89, .slice Ao94 t389.length co94, .slice Ao95 t392.length co95, .slice Ao96 t395.length co96, .int .i64 t398] 28 (0, 0)) (by (with_reducible repeat (first | refine blk_drewN ?_ _ | refine blk_drew ?_ | refine blk_alloc ?_ _)); refine blk_far ?_ NB400_415.out _; (with_reducible repeat (first | refine blk_drewN ?_ _ | refine blk_drew ?_ | refine blk_alloc ?_ _)); refine blk_far ?_ NB400_415.out _; (with_reducible repeat (first | refine blk_drewN ?_ _ | refine blk_drew ?_ | refine blk_alloc ?_ _)); refine blk_far ?_ NB400_415.out _; (with_reducible repeat (first | refine blk_drewN ?_ _ | refine blk_drew ?_ | refine blk_alloc ?_ _)); refine blk_far ?_ NB400_415.out _; (with_reducible repeat (first | refine blk_drewN ?_ _ | refine blk_drew ?_ | refine blk_alloc ?_ _)); refine blk_far ?_ NB400_415.out _; exact qB BK400.out) hb); have n14_ := Aside0.mk (blk_below (g := gb415) (o := .cells #[.slice Ao102 t401.length co102, .slice Ao108 t404.length co108, .slice Ao109 t407.length co109, .slice Ao110 t410.length co110, .int .i64 t413] 28 (0, 0)) (by (with_reducible repeat (first | refine blk_drewN ?_ _ | refine blk_drew ?_ | refine blk_alloc ?_ _)); refine blk_put (cs := #[.slice Ao102 t401.length co102, .slice Ao108 t404.length co108, .slice Ao109 t407.length co109, .slice Ao110 t410.length co110, .int .i64 0]) ?_ 4 _ rfl; (with_reducible repeat (first | refine blk_drewN ?_ _ | refine blk_drew ?_ | refine blk_alloc ?_ _)); refine blk_put (cs := #[.slice Ao102 t401.length co102, .slice Ao108 t404.length co108, .slice Ao109 t407.length co109, .slice none 0 0, .int .i64 0]) ?_ 3 _ rfl; (with_reducible repeat (first | refine blk_drewN ?_ _ | refine blk_drew ?_ | refine blk_alloc ?_ _)); refine blk_put (cs := #[.slice Ao102 t401.length co102, .slice Ao108 t404.length co108, .slice none 0 0, .slice none 0 0, .int .i64 0]) ?_ 2 _ rfl; (with_reducible repeat (first | refine blk_drewN ?_ _ | refine blk_drew ?_ | refine blk_alloc ?_ _)); refine blk_put (cs := #[.slice Ao102 t401.length co102, .slice none 0 0, .slice none 0 0, .slice none 0 0, .int .i64 0]) ?_ 1 _ rfl; (with_reducible repeat (first | refine blk_drewN ?_ _ | refine blk_drew ?_ | refine blk_alloc ?_ _)); refine blk_put (cs := #[.slice none 0 0, .slice none 0 0, .slice none 0 0, .slice none 0 0, .int .i64 0]) ?_ 0 _ rfl; exact qB BK415.out) hb); have n15_ := Aside0.mk (below_step (qW HB.out) hb); clear HO_374000 HO_374001 HO388 HO391 HO394 HO397 HO403 HO406 HO409 HO412 BK367 BK368 BK373 BK400 BK415 HB; have HO_374000 := n0_; have HO_374001 := n1_; have HO388 := n2_; have HO391 := n3_; have HO394 := n4_; have HO397 := n5_; have HO403 := n6_; have HO406 := n7_; have HO409 := n8_; have HO412 := n9_; have BK367 := n10_; have BK368 := n11_; have BK373 := n12_; have BK400 := n13_; have BK415 := n14_; have HB := n15_; clear n0_ n1_ n2_ n3_ n4_ n5_ n6_ n7_ n8_ n9_ n10_ n11_ n12_ n13_ n14_ n15_; (try clear hb); (try clear hb2); (try clear hk); (try clear hi)))
          go_ret
          exact ⟨by first | rfl | (simp [errW_none, errW_some] <;> rfl) | (simp only [← hji74]; first | rfl | (simp [errW_none, errW_some] <;> rfl)) | (simp [*, errW_none, errW_some] <;> rfl), by repeat (first | (with_reducible first | exact HB.out | apply below_alloc | apply pw_below_drewN | apply below_drew1 | refine below_set ?_ GE367.out | refine below_set ?_ GE368.out | refine below_set ?_ GE373.out | refine below_set ?_ GE400.out | refine below_set ?_ GE415.out) | exact HB.out)⟩
end Go.Proofs.Ytcflacjidabppaa.Pr

-- Written by pp.py, a program of this session, over the translation of the given program; a machine's text: Lean checks it.
import Derived.Test.YtcflacjidabppaaGShort
import Derived.Test.YtcflacjidabppaaF24
import Derived.Test.YtcflacjidabppaaGAwake
import Derived.Test.YtcflacjidabppaaGPlan
import Derived.Test.YtcflacjidabppaaGSmall
namespace Go.Proofs.Ytcflacjidabppaa.Pr
open Go.RowKit Go.Proofs.YtcflacjidabppaaW.PrintWords Go.Proofs.YtcflacjidabppaaW.PrintLast Go.Proofs.YtcflacjidabppaaW.PrintMore
attribute [local go_sem] max2_int min2_int max_two min_two max_three min_three max_four min_four   -- for this text's walks alone
set_option linter.unusedVariables false
set_option linter.unusedSimpArgs false

/-! ### standbylaw56_PlannerOrders: function 6 -/
mutual
def standbylaw56_PlannerOrders.l0 : Nat → Int → Int → Int → List Int → List Int → Int → Int → Int → List Int → List Int → List Int → List Int → Int → Option (Bool)
 | 0, _, _, _, _, _, _, _, _, _, _, _, _, _ => none
 | k + 1, x6, x67, x68, x331000, x331001, x331002, x331003, x331004, x348000, x348001, x348002, x348003, x348004 => if x68 < x67 then (standbylaw56_PlannerOrders.l1 k x6 x68 0 0 (-1) (wrap64 (x68 * x331002)) x67 x68 x331000 x331001 x331002 x331003 x331004 x348000 x348001 x348002 x348003 x348004) else ((standbylaw56_awake.f).bind fun t349 => (some t349))
def standbylaw56_PlannerOrders.l1 : Nat → Int → Int → Int → Int → Int → Int → Int → Int → List Int → List Int → Int → Int → Int → List Int → List Int → List Int → List Int → Int → Option (Bool)
 | 0, _, _, _, _, _, _, _, _, _, _, _, _, _, _, _, _, _, _ => none
 | k + 1, x6, x7, x8, x9, x10, x11, x67, x68, x331000, x331001, x331002, x331003, x331004, x348000, x348001, x348002, x348003, x348004 => if x11 < (mn (wrap64 ((wrap64 (x7 + 1)) * x331002)) (x331000.length : Int)) then (if 0 ≤ x11 then (if x11 < (x331000.length : Int) then (standbylaw56_PlannerOrders.l1 k x6 x7 (wrap64 (x8 + (rd x331000 x11))) x9 x10 (wrap64 (x11 + 1)) x67 x68 x331000 x331001 x331002 x331003 x331004 x348000 x348001 x348002 x348003 x348004) else (none)) else (none)) else (if 0 ≤ x7 then (if x7 < (x348000.length : Int) then (if (rd x348000 x7) = (wrap64 ((wrap64 (x7 + 1)) * x331002)) then (if x7 < (x348001.length : Int) then (if (rd x348001 x7) = (mx (rd x348000 x7) x6) then (if x7 < (x348002.length : Int) then (if (rd x348002 x7) < (rd x348001 x7) then (none) else (if (wrap64 ((rd x348002 x7) - (rd x348001 x7))) > 2000 then (none) else (if x7 < (x348003.length : Int) then (if (rd x348003 x7) = (wrap64 ((wrap64 ((rd x348002 x7) + x331003)) + x331004)) then (standbylaw56_PlannerOrders.l2 k x7 x8 x9 x10 (rd x348001 x7) x67 x68 x331000 x331001 x331002 x331003 x331004 x348000 x348001 x348002 x348003 x348004) else (none)) else (none)))) else (none)) else (none)) else (none)) else (none)) else (none)) else (none))
def standbylaw56_PlannerOrders.l2 : Nat → Int → Int → Int → Int → Int → Int → Int → List Int → List Int → Int → Int → Int → List Int → List Int → List Int → List Int → Int → Option (Bool)
 | 0, _, _, _, _, _, _, _, _, _, _, _, _, _, _, _, _, _ => none
 | k + 1, x7, x8, x9, x10, x12, x67, x68, x331000, x331001, x331002, x331003, x331004, x348000, x348001, x348002, x348003, x348004 => if 0 ≤ x7 then (if x7 < (x348002.length : Int) then (if x12 < (rd x348002 x7) then ((standbylaw56_capacity.f x331000 x331001 x331002 x331003 x331004 x12).bind fun t362 => (standbylaw56_PlannerOrders.l2 k x7 x8 (wrap64 (x9 + t362)) x9 (wrap64 (x12 + 1)) x67 x68 x331000 x331001 x331002 x331003 x331004 x348000 x348001 x348002 x348003 x348004)) else (if x9 < x8 then (none) else (if x10 ≥ x8 then (if x7 < (x348001.length : Int) then (if (rd x348002 x7) > (rd x348001 x7) then (none) else (standbylaw56_PlannerOrders.l0 k (rd x348002 x7) x67 (wrap64 (x68 + 1)) x331000 x331001 x331002 x331003 x331004 x348000 x348001 x348002 x348003 x348004)) else (none)) else (standbylaw56_PlannerOrders.l0 k (rd x348002 x7) x67 (wrap64 (x68 + 1)) x331000 x331001 x331002 x331003 x331004 x348000 x348001 x348002 x348003 x348004)))) else (none)) else (none)
end
def standbylaw56_PlannerOrders.f (k : Nat) (l0_0 : List Int) (l0_1 : List Int) (a0_2 : Int) (a0_3 : Int) (a0_4 : Int) : Option (Bool) := (standbylaw56_small.f k l0_0 l0_1 a0_2 a0_3 a0_4).bind fun t331 => (if t331 = true then ((planner_Plan.f k l0_0 l0_1 a0_2 a0_3 a0_4).bind fun bt333 => (if bt333.2.2.2.2.2 = 0 then (if a0_2 = 0 then (none) else (if (bt333.1.length : Int) = (wrap64 (Int.tdiv (wrap64 ((wrap64 ((l0_0.length : Int) + a0_2)) - 1)) a0_2)) then (if (bt333.2.1.length : Int) = (wrap64 (Int.tdiv (wrap64 ((wrap64 ((l0_0.length : Int) + a0_2)) - 1)) a0_2)) then (if (bt333.2.2.1.length : Int) = (wrap64 (Int.tdiv (wrap64 ((wrap64 ((l0_0.length : Int) + a0_2)) - 1)) a0_2)) then (if (bt333.2.2.2.1.length : Int) = (wrap64 (Int.tdiv (wrap64 ((wrap64 ((l0_0.length : Int) + a0_2)) - 1)) a0_2)) then (standbylaw56_PlannerOrders.l0 k 0 (wrap64 (Int.tdiv (wrap64 ((wrap64 ((l0_0.length : Int) + a0_2)) - 1)) a0_2)) 0 l0_0 l0_1 a0_2 a0_3 a0_4 bt333.1 bt333.2.1 bt333.2.2.1 bt333.2.2.2.1 bt333.2.2.2.2.1) else (none)) else (none)) else (none)) else (none))) else (if (bt333.1.length : Int) = 0 then ((standbylaw56_awake.f).bind fun t348 => (some t348)) else (none)))) else ((standbylaw56_awake.f).bind fun t332 => (some t332)))
set_option maxHeartbeats 8000000 in
set_option maxRecDepth 100000 in
theorem standbylaw56_PlannerOrders.calls (k : Nat) (A0_0 : Option Addr) (c0_0 : Nat) (l0_0 : List Int) (A0_1 : Option Addr) (c0_1 : Nat) (l0_1 : List Int) (a0_2 : Int) (a0_3 : Int) (a0_4 : Int) (r : Bool) (w : World) (hr0_0 : Kd.C (Kd.int .i64) w A0_0 l0_0.length l0_0) (hc0_0 : l0_0.length ≤ c0_0) (hr0_1 : Kd.C (Kd.int .i64) w A0_1 l0_1.length l0_1) (hc0_1 : l0_1.length ≤ c0_1) (h : standbylaw56_PlannerOrders.f k l0_0 l0_1 a0_2 a0_3 a0_4 = some r) :
  Calls Try.prog 6 #[.agg #[.slice A0_0 l0_0.length c0_0, .slice A0_1 l0_1.length c0_1, .int .i64 a0_2, .int .i64 a0_3, .int .i64 a0_4]] w fun e w' => e = .returned (.bool r) ∧ Below w.heap.size w w' := by
 have hu24 := Try.underlying24
 have hu28 := Try.underlying28
 have HR0_0 := Aside0.mk hr0_0
 have HC0_0 := Aside0.mk hc0_0
 clear hr0_0 hc0_0
 have HR0_1 := Aside0.mk hr0_1
 have HC0_1 := Aside0.mk hc0_1
 clear hr0_1 hc0_1
 have HB := Aside0.mk (Below.refl w.heap.size w)
 have H : ((standbylaw56_small.f k l0_0 l0_1 a0_2 a0_3 a0_4).bind fun t331 => (if t331 = true then ((planner_Plan.f k l0_0 l0_1 a0_2 a0_3 a0_4).bind fun bt333 => (if bt333.2.2.2.2.2 = 0 then (if a0_2 = 0 then (none) else (if (bt333.1.length : Int) = (wrap64 (Int.tdiv (wrap64 ((wrap64 ((l0_0.length : Int) + a0_2)) - 1)) a0_2)) then (if (bt333.2.1.length : Int) = (wrap64 (Int.tdiv (wrap64 ((wrap64 ((l0_0.length : Int) + a0_2)) - 1)) a0_2)) then (if (bt333.2.2.1.length : Int) = (wrap64 (Int.tdiv (wrap64 ((wrap64 ((l0_0.length : Int) + a0_2)) - 1)) a0_2)) then (if (bt333.2.2.2.1.length : Int) = (wrap64 (Int.tdiv (wrap64 ((wrap64 ((l0_0.length : Int) + a0_2)) - 1)) a0_2)) then (standbylaw56_PlannerOrders.l0 k 0 (wrap64 (Int.tdiv (wrap64 ((wrap64 ((l0_0.length : Int) + a0_2)) - 1)) a0_2)) 0 l0_0 l0_1 a0_2 a0_3 a0_4 bt333.1 bt333.2.1 bt333.2.2.1 bt333.2.2.2.1 bt333.2.2.2.2.1) else (none)) else (none)) else (none)) else (none))) else (if (bt333.1.length : Int) = 0 then ((standbylaw56_awake.f).bind fun t348 => (some t348)) else (none)))) else ((standbylaw56_awake.f).bind fun t332 => (some t332)))) = some r := h
 clear h
 replace H := Option.bind_eq_some_iff.mp H
 obtain ⟨t331, A20, H⟩ := H
 replace H : (if t331 = true then ((planner_Plan.f k l0_0 l0_1 a0_2 a0_3 a0_4).bind fun bt333 => (if bt333.2.2.2.2.2 = 0 then (if a0_2 = 0 then (none) else (if (bt333.1.length : Int) = (wrap64 (Int.tdiv (wrap64 ((wrap64 ((l0_0.length : Int) + a0_2)) - 1)) a0_2)) then (if (bt333.2.1.length : Int) = (wrap64 (Int.tdiv (wrap64 ((wrap64 ((l0_0.length : Int) + a0_2)) - 1)) a0_2)) then (if (bt333.2.2.1.length : Int) = (wrap64 (Int.tdiv (wrap64 ((wrap64 ((l0_0.length : Int) + a0_2)) - 1)) a0_2)) then (if (bt333.2.2.2.1.length : Int) = (wrap64 (Int.tdiv (wrap64 ((wrap64 ((l0_0.length : Int) + a0_2)) - 1)) a0_2)) then (standbylaw56_PlannerOrders.l0 k 0 (wrap64 (Int.tdiv (wrap64 ((wrap64 ((l0_0.length : Int) + a0_2)) - 1)) a0_2)) 0 l0_0 l0_1 a0_2 a0_3 a0_4 bt333.1 bt333.2.1 bt333.2.2.1 bt333.2.2.2.1 bt333.2.2.2.2.1) else (none)) else (none)) else (none)) else (none))) else (if (bt333.1.length : Int) = 0 then ((standbylaw56_awake.f).bind fun t348 => (some t348)) else (none)))) else ((standbylaw56_awake.f).bind fun t332 => (some t332))) = some r := H
 have A2 := Aside0.mk A20
 clear A20
 by_cases c3 : t331 = true
 case neg =>
  replace c3 := Bool.eq_false_iff.mpr c3
  subst c3
  have H1 : ((standbylaw56_awake.f).bind fun t332 => (some t332)) = some r := by rw [if_neg (show ¬ (false = true) by decide)] at H; exact H
  clear H
  have H := H1
  clear H1
  replace H := Option.bind_eq_some_iff.mp H
  obtain ⟨t332, A800, H⟩ := H
  replace H : (some t332) = some r := H
  have A80 := Aside0.mk A800
  clear A800
  obtain rfl := Option.some.inj H
  go_enter Try.func6, Try.ntmps6
  go_wp2_with (first | ((with_reducible refine gate_dst (N := 1) rfl ?_); (try (refine gate_guard (by rfl) ?_; dsimp only)); refine box_event ?hg (N := 1) ?hd (cs := #[.slice A0_0 l0_0.length c0_0, .slice A0_1 l0_1.length c0_1, .int .i64 a0_2, .int .i64 a0_3, .int .i64 a0_4]) (t := 24) ?hr ?_; (case hd => rfl); (case hg => rfl); (case hr => first | (go_simp; done) | (go_simp; rfl)); intro gb330 hg w81 hbox hb; have n0_ := Aside0.mk (below_step (qW HB.out) hb); have n1_ := Aside0.mk (hbox); have n2_ := Aside0.mk ((by rw [hg]; exact (below_size (qW HB.out)) : w.heap.size ≤ gb330)); have n3_ := Aside0.mk ((by rw [hg]; exact (below_size (qW HB.out)) : w.heap.size ≤ gb330)); clear HB; have HB := n0_; have BK330 := n1_; have GW330 := n2_; have GE330 := n3_; clear n0_ n1_ n2_ n3_ hb hbox hg; have hcz82_0 : w81.cell? ⟨gb330, 0, none⟩ = some (.slice A0_0 l0_0.length c0_0) := (blk_cell BK330.out 0).trans rfl; have hcz82_1 : w81.cell? ⟨gb330, 1, none⟩ = some (.slice A0_1 l0_1.length c0_1) := (blk_cell BK330.out 1).trans rfl; have hcz82_2 : w81.cell? ⟨gb330, 2, none⟩ = some (.int .i64 a0_2) := (blk_cell BK330.out 2).trans rfl; have hcz82_3 : w81.cell? ⟨gb330, 3, none⟩ = some (.int .i64 a0_3) := (blk_cell BK330.out 3).trans rfl; have hcz82_4 : w81.cell? ⟨gb330, 4, none⟩ = some (.int .i64 a0_4) := (blk_cell BK330.out 4).trans rfl; have hfz82_0 := blk_frozen BK330.out 0; have hfz82_1 := blk_frozen BK330.out 1; have hfz82_2 := blk_frozen BK330.out 2; have hfz82_3 := blk_frozen BK330.out 3; have hfz82_4 := blk_frozen BK330.out 4) | (go_at_call 23; (with_reducible refine (standbylaw56_small.calls k _ _ l0_0 _ _ l0_1 a0_2 a0_3 a0_4 false _ ?side1 ?side2 ?side3 ?side4 A2.out).mono ?_); (case side1 => exact qC HR0_0.out HB.out); (case side2 => exact HC0_0.out); (case side3 => exact qC HR0_1.out HB.out); (case side4 => exact HC0_1.out); rintro e w83 ⟨rfl, hb⟩; have n0_ := Aside0.mk (blk_below (qB BK330.out) hb); have n1_ := Aside0.mk (below_step (qW HB.out) hb); clear BK330 HB; have BK330 := n0_; have HB := n1_; clear n0_ n1_; (try clear hb); (try clear hb2); (try clear hk); (try clear hi)) | (go_at_call 12; (with_reducible refine (standbylaw56_awake.calls  t332 _ A80.out).mono ?_); rintro e w84 ⟨rfl, hb⟩; have n0_ := Aside0.mk (blk_below (qB BK330.out) hb); have n1_ := Aside0.mk (below_step (qW HB.out) hb); clear BK330 HB; have BK330 := n0_; have HB := n1_; clear n0_ n1_; (try clear hb); (try clear hb2); (try clear hk); (try clear hi)))
  repeat (go_quiet (first | ((with_reducible refine gate_dst (N := 1) rfl ?_); (try (refine gate_guard (by rfl) ?_; dsimp only)); refine box_event ?hg (N := 1) ?hd (cs := #[.slice A0_0 l0_0.length c0_0, .slice A0_1 l0_1.length c0_1, .int .i64 a0_2, .int .i64 a0_3, .int .i64 a0_4]) (t := 24) ?hr ?_; (case hd => rfl); (case hg => rfl); (case hr => first | (go_simp; done) | (go_simp; rfl)); intro gb330 hg w81 hbox hb; have n0_ := Aside0.mk (below_step (qW HB.out) hb); have n1_ := Aside0.mk (hbox); have n2_ := Aside0.mk ((by rw [hg]; exact (below_size (qW HB.out)) : w.heap.size ≤ gb330)); have n3_ := Aside0.mk ((by rw [hg]; exact (below_size (qW HB.out)) : w.heap.size ≤ gb330)); clear HB; have HB := n0_; have BK330 := n1_; have GW330 := n2_; have GE330 := n3_; clear n0_ n1_ n2_ n3_ hb hbox hg; have hcz82_0 : w81.cell? ⟨gb330, 0, none⟩ = some (.slice A0_0 l0_0.length c0_0) := (blk_cell BK330.out 0).trans rfl; have hcz82_1 : w81.cell? ⟨gb330, 1, none⟩ = some (.slice A0_1 l0_1.length c0_1) := (blk_cell BK330.out 1).trans rfl; have hcz82_2 : w81.cell? ⟨gb330, 2, none⟩ = some (.int .i64 a0_2) := (blk_cell BK330.out 2).trans rfl; have hcz82_3 : w81.cell? ⟨gb330, 3, none⟩ = some (.int .i64 a0_3) := (blk_cell BK330.out 3).trans rfl; have hcz82_4 : w81.cell? ⟨gb330, 4, none⟩ = some (.int .i64 a0_4) := (blk_cell BK330.out 4).trans rfl; have hfz82_0 := blk_frozen BK330.out 0; have hfz82_1 := blk_frozen BK330.out 1; have hfz82_2 := blk_frozen BK330.out 2; have hfz82_3 := blk_frozen BK330.out 3; have hfz82_4 := blk_frozen BK330.out 4) | (go_at_call 23; (with_reducible refine (standbylaw56_small.calls k _ _ l0_0 _ _ l0_1 a0_2 a0_3 a0_4 false _ ?side1 ?side2 ?side3 ?side4 A2.out).mono ?_); (case side1 => exact qC HR0_0.out HB.out); (case side2 => exact HC0_0.out); (case side3 => exact qC HR0_1.out HB.out); (case side4 => exact HC0_1.out); rintro e w83 ⟨rfl, hb⟩; have n0_ := Aside0.mk (blk_below (qB BK330.out) hb); have n1_ := Aside0.mk (below_step (qW HB.out) hb); clear BK330 HB; have BK330 := n0_; have HB := n1_; clear n0_ n1_; (try clear hb); (try clear hb2); (try clear hk); (try clear hi)) | (go_at_call 12; (with_reducible refine (standbylaw56_awake.calls  t332 _ A80.out).mono ?_); rintro e w84 ⟨rfl, hb⟩; have n0_ := Aside0.mk (blk_below (qB BK330.out) hb); have n1_ := Aside0.mk (below_step (qW HB.out) hb); clear BK330 HB; have BK330 := n0_; have HB := n1_; clear n0_ n1_; (try clear hb); (try clear hb2); (try clear hk); (try clear hi))); try go_wp2_with (first | ((with_reducible refine gate_dst (N := 1) rfl ?_); (try (refine gate_guard (by rfl) ?_; dsimp only)); refine box_event ?hg (N := 1) ?hd (cs := #[.slice A0_0 l0_0.length c0_0, .slice A0_1 l0_1.length c0_1, .int .i64 a0_2, .int .i64 a0_3, .int .i64 a0_4]) (t := 24) ?hr ?_; (case hd => rfl); (case hg => rfl); (case hr => first | (go_simp; done) | (go_simp; rfl)); intro gb330 hg w81 hbox hb; have n0_ := Aside0.mk (below_step (qW HB.out) hb); have n1_ := Aside0.mk (hbox); have n2_ := Aside0.mk ((by rw [hg]; exact (below_size (qW HB.out)) : w.heap.size ≤ gb330)); have n3_ := Aside0.mk ((by rw [hg]; exact (below_size (qW HB.out)) : w.heap.size ≤ gb330)); clear HB; have HB := n0_; have BK330 := n1_; have GW330 := n2_; have GE330 := n3_; clear n0_ n1_ n2_ n3_ hb hbox hg; have hcz82_0 : w81.cell? ⟨gb330, 0, none⟩ = some (.slice A0_0 l0_0.length c0_0) := (blk_cell BK330.out 0).trans rfl; have hcz82_1 : w81.cell? ⟨gb330, 1, none⟩ = some (.slice A0_1 l0_1.length c0_1) := (blk_cell BK330.out 1).trans rfl; have hcz82_2 : w81.cell? ⟨gb330, 2, none⟩ = some (.int .i64 a0_2) := (blk_cell BK330.out 2).trans rfl; have hcz82_3 : w81.cell? ⟨gb330, 3, none⟩ = some (.int .i64 a0_3) := (blk_cell BK330.out 3).trans rfl; have hcz82_4 : w81.cell? ⟨gb330, 4, none⟩ = some (.int .i64 a0_4) := (blk_cell BK330.out 4).trans rfl; have hfz82_0 := blk_frozen BK330.out 0; have hfz82_1 := blk_frozen BK330.out 1; have hfz82_2 := blk_frozen BK330.out 2; have hfz82_3 := blk_frozen BK330.out 3; have hfz82_4 := blk_frozen BK330.out 4) | (go_at_call 23; (with_reducible refine (standbylaw56_small.calls k _ _ l0_0 _ _ l0_1 a0_2 a0_3 a0_4 false _ ?side1 ?side2 ?side3 ?side4 A2.out).mono ?_); (case side1 => exact qC HR0_0.out HB.out); (case side2 => exact HC0_0.out); (case side3 => exact qC HR0_1.out HB.out); (case side4 => exact HC0_1.out); rintro e w83 ⟨rfl, hb⟩; have n0_ := Aside0.mk (blk_below (qB BK330.out) hb); have n1_ := Aside0.mk (below_step (qW HB.out) hb); clear BK330 HB; have BK330 := n0_; have HB := n1_; clear n0_ n1_; (try clear hb); (try clear hb2); (try clear hk); (try clear hi)) | (go_at_call 12; (with_reducible refine (standbylaw56_awake.calls  t332 _ A80.out).mono ?_); rintro e w84 ⟨rfl, hb⟩; have n0_ := Aside0.mk (blk_below (qB BK330.out) hb); have n1_ := Aside0.mk (below_step (qW HB.out) hb); clear BK330 HB; have BK330 := n0_; have HB := n1_; clear n0_ n1_; (try clear hb); (try clear hb2); (try clear hk); (try clear hi))))
  go_ret
  exact ⟨by first | rfl | (simp [errW_none, errW_some] <;> rfl) | (simp [*, errW_none, errW_some] <;> rfl), by repeat (first | (with_reducible first | exact HB.out | apply below_alloc | apply pw_below_drewN | apply below_drew1 | refine below_set ?_ GE330.out) | exact HB.out)⟩

 subst c3
 have H1 : ((planner_Plan.f k l0_0 l0_1 a0_2 a0_3 a0_4).bind fun bt333 => (if bt333.2.2.2.2.2 = 0 then (if a0_2 = 0 then (none) else (if (bt333.1.length : Int) = (wrap64 (Int.tdiv (wrap64 ((wrap64 ((l0_0.length : Int) + a0_2)) - 1)) a0_2)) then (if (bt333.2.1.length : Int) = (wrap64 (Int.tdiv (wrap64 ((wrap64 ((l0_0.length : Int) + a0_2)) - 1)) a0_2)) then (if (bt333.2.2.1.length : Int) = (wrap64 (Int.tdiv (wrap64 ((wrap64 ((l0_0.length : Int) + a0_2)) - 1)) a0_2)) then (if (bt333.2.2.2.1.length : Int) = (wrap64 (Int.tdiv (wrap64 ((wrap64 ((l0_0.length : Int) + a0_2)) - 1)) a0_2)) then (standbylaw56_PlannerOrders.l0 k 0 (wrap64 (Int.tdiv (wrap64 ((wrap64 ((l0_0.length : Int) + a0_2)) - 1)) a0_2)) 0 l0_0 l0_1 a0_2 a0_3 a0_4 bt333.1 bt333.2.1 bt333.2.2.1 bt333.2.2.2.1 bt333.2.2.2.2.1) else (none)) else (none)) else (none)) else (none))) else (if (bt333.1.length : Int) = 0 then ((standbylaw56_awake.f).bind fun t348 => (some t348)) else (none)))) = some r := by rw [if_pos rfl] at H; exact H
 clear H
 have H := H1
 clear H1
 replace H := Option.bind_eq_some_iff.mp H
 obtain ⟨⟨t333, t336, t339, t342, t345, t346⟩, A40, H⟩ := H
 replace H : (if t346 = 0 then (if a0_2 = 0 then (none) else (if (t333.length : Int) = (wrap64 (Int.tdiv (wrap64 ((wrap64 ((l0_0.length : Int) + a0_2)) - 1)) a0_2)) then (if (t336.length : Int) = (wrap64 (Int.tdiv (wrap64 ((wrap64 ((l0_0.length : Int) + a0_2)) - 1)) a0_2)) then (if (t339.length : Int) = (wrap64 (Int.tdiv (wrap64 ((wrap64 ((l0_0.length : Int) + a0_2)) - 1)) a0_2)) then (if (t342.length : Int) = (wrap64 (Int.tdiv (wrap64 ((wrap64 ((l0_0.length : Int) + a0_2)) - 1)) a0_2)) then (standbylaw56_PlannerOrders.l0 k 0 (wrap64 (Int.tdiv (wrap64 ((wrap64 ((l0_0.length : Int) + a0_2)) - 1)) a0_2)) 0 l0_0 l0_1 a0_2 a0_3 a0_4 t333 t336 t339 t342 t345) else (none)) else (none)) else (none)) else (none))) else (if (t333.length : Int) = 0 then ((standbylaw56_awake.f).bind fun t348 => (some t348)) else (none))) = some r := H
 have A4 := Aside0.mk A40
 clear A40
 by_cases c5 : t346 = 0
 case neg =>
  rw [if_neg c5] at H
  have c5b0 : (t346 == 0) = false := beq_eq_false_iff_ne.mpr c5
  have c5b1 : (t346 != 0) = true := bne_iff_ne.mpr c5
  by_cases c65 : (t333.length : Int) = 0
  case neg =>
   rw [if_neg c65] at H
   exact absurd H (by simp)
  rw [if_pos c65] at H
  have c65b0 : ((t333.length : Int) == 0) = true := beq_iff_eq.mpr c65
  have c65b1 : ((t333.length : Int) != 0) = false := bne_eq_false_iff_eq.mpr c65
  clear c65
  replace H := Option.bind_eq_some_iff.mp H
  obtain ⟨t348, A660, H⟩ := H
  replace H : (some t348) = some r := H
  have A66 := Aside0.mk A660
  clear A660
  obtain rfl := Option.some.inj H
  go_enter Try.func6, Try.ntmps6
  go_wp2_with (first | ((with_reducible refine gate_dst (N := 1) rfl ?_); (try (refine gate_guard (by rfl) ?_; dsimp only)); refine box_event ?hg (N := 1) ?hd (cs := #[.slice A0_0 l0_0.length c0_0, .slice A0_1 l0_1.length c0_1, .int .i64 a0_2, .int .i64 a0_3, .int .i64 a0_4]) (t := 24) ?hr ?_; (case hd => rfl); (case hg => rfl); (case hr => first | (go_simp; done) | (go_simp; rfl)); intro gb330 hg w67 hbox hb; have n0_ := Aside0.mk (below_step (qW HB.out) hb); have n1_ := Aside0.mk (hbox); have n2_ := Aside0.mk ((by rw [hg]; exact (below_size (qW HB.out)) : w.heap.size ≤ gb330)); have n3_ := Aside0.mk ((by rw [hg]; exact (below_size (qW HB.out)) : w.heap.size ≤ gb330)); clear HB; have HB := n0_; have BK330 := n1_; have GW330 := n2_; have GE330 := n3_; clear n0_ n1_ n2_ n3_ hb hbox hg; have hcz68_0 : w67.cell? ⟨gb330, 0, none⟩ = some (.slice A0_0 l0_0.length c0_0) := (blk_cell BK330.out 0).trans rfl; have hcz68_1 : w67.cell? ⟨gb330, 1, none⟩ = some (.slice A0_1 l0_1.length c0_1) := (blk_cell BK330.out 1).trans rfl; have hcz68_2 : w67.cell? ⟨gb330, 2, none⟩ = some (.int .i64 a0_2) := (blk_cell BK330.out 2).trans rfl; have hcz68_3 : w67.cell? ⟨gb330, 3, none⟩ = some (.int .i64 a0_3) := (blk_cell BK330.out 3).trans rfl; have hcz68_4 : w67.cell? ⟨gb330, 4, none⟩ = some (.int .i64 a0_4) := (blk_cell BK330.out 4).trans rfl; have hfz68_0 := blk_frozen BK330.out 0; have hfz68_1 := blk_frozen BK330.out 1; have hfz68_2 := blk_frozen BK330.out 2; have hfz68_3 := blk_frozen BK330.out 3; have hfz68_4 := blk_frozen BK330.out 4) | (go_at_call 23; (with_reducible refine (standbylaw56_small.calls k _ _ l0_0 _ _ l0_1 a0_2 a0_3 a0_4 true _ ?side1 ?side2 ?side3 ?side4 A2.out).mono ?_); (case side1 => exact qC HR0_0.out HB.out); (case side2 => exact HC0_0.out); (case side3 => exact qC HR0_1.out HB.out); (case side4 => exact HC0_1.out); rintro e w69 ⟨rfl, hb⟩; have n0_ := Aside0.mk (blk_below (qB BK330.out) hb); have n1_ := Aside0.mk (below_step (qW HB.out) hb); clear BK330 HB; have BK330 := n0_; have HB := n1_; clear n0_ n1_; (try clear hb); (try clear hb2); (try clear hk); (try clear hi); have hcz70_0 : w69.cell? ⟨gb330, 0, none⟩ = some (.slice A0_0 l0_0.length c0_0) := (blk_cell BK330.out 0).trans rfl; have hcz70_1 : w69.cell? ⟨gb330, 1, none⟩ = some (.slice A0_1 l0_1.length c0_1) := (blk_cell BK330.out 1).trans rfl; have hcz70_2 : w69.cell? ⟨gb330, 2, none⟩ = some (.int .i64 a0_2) := (blk_cell BK330.out 2).trans rfl; have hcz70_3 : w69.cell? ⟨gb330, 3, none⟩ = some (.int .i64 a0_3) := (blk_cell BK330.out 3).trans rfl; have hcz70_4 : w69.cell? ⟨gb330, 4, none⟩ = some (.int .i64 a0_4) := (blk_cell BK330.out 4).trans rfl; have hfz70_0 := blk_frozen BK330.out 0; have hfz70_1 := blk_frozen BK330.out 1; have hfz70_2 := blk_frozen BK330.out 2; have hfz70_3 := blk_frozen BK330.out 3; have hfz70_4 := blk_frozen BK330.out 4) | (go_at_call 13; (with_reducible refine (planner_Plan.calls k _ _ l0_0 _ _ l0_1 a0_2 a0_3 a0_4 t333 t336 t339 t342 t345 t346 _ ?side1 ?side2 ?side3 ?side4 A4.out).mono ?_); (case side1 => exact qC HR0_0.out HB.out); (case side2 => exact HC0_0.out); (case side3 => exact qC HR0_1.out HB.out); (case side4 => exact HC0_1.out); rintro e w71 ⟨v334, v337, v340, v343, rfl, ho0, ho1, ho2, ho3, hb⟩; have n0_ := Aside0.mk (Kd.R_lower ho0 (below_size (qW HB.out))); have n1_ := Aside0.mk (Kd.R_lower ho1 (below_size (qW HB.out))); have n2_ := Aside0.mk (Kd.R_lower ho2 (below_size (qW HB.out))); have n3_ := Aside0.mk (Kd.R_lower ho3 (below_size (qW HB.out))); have n4_ := Aside0.mk (blk_below (qB BK330.out) hb); have n5_ := Aside0.mk (below_step (qW HB.out) hb); clear BK330 HB; have HO335 := n0_; have HO338 := n1_; have HO341 := n2_; have HO344 := n3_; have BK330 := n4_; have HB := n5_; clear n0_ n1_ n2_ n3_ n4_ n5_; (try clear hb); (try clear hb2); (try clear hk); (try clear hi); (try clear ho0); (try clear ho1); (try clear ho2); (try clear ho3)) | ((with_reducible refine gate_dst (N := 3) rfl ?_); (try (refine gate_guard (by rfl) ?_; dsimp only)); refine box_event ?hg (N := 3) ?hd (cs := #[.slice none 0 0, .slice none 0 0, .slice none 0 0, .slice none 0 0, .int .i64 0]) (t := 28) ?hr ?_; (case hd => rfl); (case hg => rfl); (case hr => first | (go_simp; done) | (go_simp; rfl)); intro gb347 hg w72 hbox hb; have n0_ := Aside0.mk (Kd.R_below (qR HO335.out) hb); have n1_ := Aside0.mk (Kd.R_below (qR HO338.out) hb); have n2_ := Aside0.mk (Kd.R_below (qR HO341.out) hb); have n3_ := Aside0.mk (Kd.R_below (qR HO344.out) hb); have n4_ := Aside0.mk (blk_below (qB BK330.out) hb); have n5_ := Aside0.mk (below_step (qW HB.out) hb); have n6_ := Aside0.mk (hbox); have n7_ := Aside0.mk ((by rw [hg]; exact (below_size (qW HB.out)) : w.heap.size ≤ gb347)); have n8_ := Aside0.mk ((by rw [hg]; exact (below_size (qW HB.out)) : w.heap.size ≤ gb347)); have n9_ := Aside0.mk ((by rw [hg]; exact Nat.ne_of_lt (blk_lt (qB BK330.out)) : gb330 ≠ gb347)); have n10_ := Aside0.mk ((by rw [hg]; exact Nat.ne_of_gt (blk_lt (qB BK330.out)) : gb347 ≠ gb330)); clear HO335 HO338 HO341 HO344 BK330 HB; have HO335 := n0_; have HO338 := n1_; have HO341 := n2_; have HO344 := n3_; have BK330 := n4_; have HB := n5_; have BK347 := n6_; have GW347 := n7_; have GE347 := n8_; have NB330_347 := n9_; have NB347_330 := n10_; clear n0_ n1_ n2_ n3_ n4_ n5_ n6_ n7_ n8_ n9_ n10_ hb hbox hg; obtain ⟨Ao73, co73, eo73⟩ := Kd.R_slice HO335.out; subst eo73; have hnb74 := NB347_330.out; have hnc74 := NB330_347.out; have hcz75_0 : w72.cell? ⟨gb347, 0, none⟩ = some (.slice none 0 0) := (blk_cell BK347.out 0).trans rfl; have hcz75_1 : w72.cell? ⟨gb347, 1, none⟩ = some (.slice none 0 0) := (blk_cell BK347.out 1).trans rfl; have hcz75_2 : w72.cell? ⟨gb347, 2, none⟩ = some (.slice none 0 0) := (blk_cell BK347.out 2).trans rfl; have hcz75_3 : w72.cell? ⟨gb347, 3, none⟩ = some (.slice none 0 0) := (blk_cell BK347.out 3).trans rfl; have hcz75_4 : w72.cell? ⟨gb347, 4, none⟩ = some (.int .i64 0) := (blk_cell BK347.out 4).trans rfl; have hfz75_0 := blk_frozen BK347.out 0; have hfz75_1 := blk_frozen BK347.out 1; have hfz75_2 := blk_frozen BK347.out 2; have hfz75_3 := blk_frozen BK347.out 3; have hfz75_4 := blk_frozen BK347.out 4; obtain ⟨Ao76, co76, eo76⟩ := Kd.R_slice HO338.out; subst eo76; obtain ⟨Ao77, co77, eo77⟩ := Kd.R_slice HO341.out; subst eo77; obtain ⟨Ao78, co78, eo78⟩ := Kd.R_slice HO344.out; subst eo78) | (go_at_call 12; (with_reducible refine (standbylaw56_awake.calls  t348 _ A66.out).mono ?_); rintro e w79 ⟨rfl, hb⟩; have n0_ := Aside0.mk (Kd.R_below (qR (Kd.R_mono (Kd.R_far (p := ⟨gb347, 4, none⟩) (Kd.R_far (p := ⟨gb347, 3, none⟩) (Kd.R_far (p := ⟨gb347, 2, none⟩) (Kd.R_far (p := ⟨gb347, 1, none⟩) (Kd.R_far (p := ⟨gb347, 0, none⟩) (Kd.R_types HO335.out BK347.out (by decide)) (fun _ hk => hk.2) (.slice Ao73 t333.length co73)) (fun _ hk => hk.2) (.slice Ao76 t336.length co76)) (fun _ hk => hk.2) (.slice Ao77 t339.length co77)) (fun _ hk => hk.2) (.slice Ao78 t342.length co78)) (fun _ hk => hk.2) (.int .i64 t345)) (fun _ h_ => h_.1))) hb); have n1_ := Aside0.mk (Kd.R_below (qR (Kd.R_mono (Kd.R_far (p := ⟨gb347, 4, none⟩) (Kd.R_far (p := ⟨gb347, 3, none⟩) (Kd.R_far (p := ⟨gb347, 2, none⟩) (Kd.R_far (p := ⟨gb347, 1, none⟩) (Kd.R_far (p := ⟨gb347, 0, none⟩) (Kd.R_types HO338.out BK347.out (by decide)) (fun _ hk => hk.2) (.slice Ao73 t333.length co73)) (fun _ hk => hk.2) (.slice Ao76 t336.length co76)) (fun _ hk => hk.2) (.slice Ao77 t339.length co77)) (fun _ hk => hk.2) (.slice Ao78 t342.length co78)) (fun _ hk => hk.2) (.int .i64 t345)) (fun _ h_ => h_.1))) hb); have n2_ := Aside0.mk (Kd.R_below (qR (Kd.R_mono (Kd.R_far (p := ⟨gb347, 4, none⟩) (Kd.R_far (p := ⟨gb347, 3, none⟩) (Kd.R_far (p := ⟨gb347, 2, none⟩) (Kd.R_far (p := ⟨gb347, 1, none⟩) (Kd.R_far (p := ⟨gb347, 0, none⟩) (Kd.R_types HO341.out BK347.out (by decide)) (fun _ hk => hk.2) (.slice Ao73 t333.length co73)) (fun _ hk => hk.2) (.slice Ao76 t336.length co76)) (fun _ hk => hk.2) (.slice Ao77 t339.length co77)) (fun _ hk => hk.2) (.slice Ao78 t342.length co78)) (fun _ hk => hk.2) (.int .i64 t345)) (fun _ h_ => h_.1))) hb); have n3_ := Aside0.mk (Kd.R_below (qR (Kd.R_mono (Kd.R_far (p := ⟨gb347, 4, none⟩) (Kd.R_far (p := ⟨gb347, 3, none⟩) (Kd.R_far (p := ⟨gb347, 2, none⟩) (Kd.R_far (p := ⟨gb347, 1, none⟩) (Kd.R_far (p := ⟨gb347, 0, none⟩) (Kd.R_types HO344.out BK347.out (by decide)) (fun _ hk => hk.2) (.slice Ao73 t333.length co73)) (fun _ hk => hk.2) (.slice Ao76 t336.length co76)) (fun _ hk => hk.2) (.slice Ao77 t339.length co77)) (fun _ hk => hk.2) (.slice Ao78 t342.length co78)) (fun _ hk => hk.2) (.int .i64 t345)) (fun _ h_ => h_.1))) hb); have n4_ := Aside0.mk (blk_below (g := gb330) (o := .cells #[.slice A0_0 l0_0.length c0_0, .slice A0_1 l0_1.length c0_1, .int .i64 a0_2, .int .i64 a0_3, .int .i64 a0_4] 24 (0, 0)) (by (with_reducible repeat (first | refine blk_drewN ?_ _ | refine blk_drew ?_ | refine blk_alloc ?_ _)); refine blk_far ?_ NB330_347.out _; (with_reducible repeat (first | refine blk_drewN ?_ _ | refine blk_drew ?_ | refine blk_alloc ?_ _)); refine blk_far ?_ NB330_347.out _; (with_reducible repeat (first | refine blk_drewN ?_ _ | refine blk_drew ?_ | refine blk_alloc ?_ _)); refine blk_far ?_ NB330_347.out _; (with_reducible repeat (first | refine blk_drewN ?_ _ | refine blk_drew ?_ | refine blk_alloc ?_ _)); refine blk_far ?_ NB330_347.out _; (with_reducible repeat (first | refine blk_drewN ?_ _ | refine blk_drew ?_ | refine blk_alloc ?_ _)); refine blk_far ?_ NB330_347.out _; exact qB BK330.out) hb); have n5_ := Aside0.mk (blk_below (g := gb347) (o := .cells #[.slice Ao73 t333.length co73, .slice Ao76 t336.length co76, .slice Ao77 t339.length co77, .slice Ao78 t342.length co78, .int .i64 t345] 28 (0, 0)) (by (with_reducible repeat (first | refine blk_drewN ?_ _ | refine blk_drew ?_ | refine blk_alloc ?_ _)); refine blk_put (cs := #[.slice Ao73 t333.length co73, .slice Ao76 t336.length co76, .slice Ao77 t339.length co77, .slice Ao78 t342.length co78, .int .i64 0]) ?_ 4 _ rfl; (with_reducible repeat (first | refine blk_drewN ?_ _ | refine blk_drew ?_ | refine blk_alloc ?_ _)); refine blk_put (cs := #[.slice Ao73 t333.length co73, .slice Ao76 t336.length co76, .slice Ao77 t339.length co77, .slice none 0 0, .int .i64 0]) ?_ 3 _ rfl; (with_reducible repeat (first | refine blk_drewN ?_ _ | refine blk_drew ?_ | refine blk_alloc ?_ _)); refine blk_put (cs := #[.slice Ao73 t333.length co73, .slice Ao76 t336.length co76, .slice none 0 0, .slice none 0 0, .int .i64 0]) ?_ 2 _ rfl; (with_reducible repeat (first | refine blk_drewN ?_ _ | refine blk_drew ?_ | refine blk_alloc ?_ _)); refine blk_put (cs := #[.slice Ao73 t333.length co73, .slice none 0 0, .slice none 0 0, .slice none 0 0, .int .i64 0]) ?_ 1 _ rfl; (with_reducible repeat (first | refine blk_drewN ?_ _ | refine blk_drew ?_ | refine blk_alloc ?_ _)); refine blk_put (cs := #[.slice none 0 0, .slice none 0 0, .slice none 0 0, .slice none 0 0, .int .i64 0]) ?_ 0 _ rfl; exact qB BK347.out) hb); have n6_ := Aside0.mk (below_step (qW HB.out) hb); clear HO335 HO338 HO341 HO344 BK330 BK347 HB; have HO335 := n0_; have HO338 := n1_; have HO341 := n2_; have HO344 := n3_; have BK330 := n4_; have BK347 := n5_; have HB := n6_; clear n0_ n1_ n2_ n3_ n4_ n5_ n6_; (try clear hb); (try clear hb2); (try clear hk); (try clear hi)))
  repeat (go_quiet (first | ((with_reducible refine gate_dst (N := 1) rfl ?_); (try (refine gate_guard (by rfl) ?_; dsimp only)); refine box_event ?hg (N := 1) ?hd (cs := #[.slice A0_0 l0_0.length c0_0, .slice A0_1 l0_1.length c0_1, .int .i64 a0_2, .int .i64 a0_3, .int .i64 a0_4]) (t := 24) ?hr ?_; (case hd => rfl); (case hg => rfl); (case hr => first | (go_simp; done) | (go_simp; rfl)); intro gb330 hg w67 hbox hb; have n0_ := Aside0.mk (below_step (qW HB.out) hb); have n1_ := Aside0.mk (hbox); have n2_ := Aside0.mk ((by rw [hg]; exact (below_size (qW HB.out)) : w.heap.size ≤ gb330)); have n3_ := Aside0.mk ((by rw [hg]; exact (below_size (qW HB.out)) : w.heap.size ≤ gb330)); clear HB; have HB := n0_; have BK330 := n1_; have GW330 := n2_; have GE330 := n3_; clear n0_ n1_ n2_ n3_ hb hbox hg; have hcz68_0 : w67.cell? ⟨gb330, 0, none⟩ = some (.slice A0_0 l0_0.length c0_0) := (blk_cell BK330.out 0).trans rfl; have hcz68_1 : w67.cell? ⟨gb330, 1, none⟩ = some (.slice A0_1 l0_1.length c0_1) := (blk_cell BK330.out 1).trans rfl; have hcz68_2 : w67.cell? ⟨gb330, 2, none⟩ = some (.int .i64 a0_2) := (blk_cell BK330.out 2).trans rfl; have hcz68_3 : w67.cell? ⟨gb330, 3, none⟩ = some (.int .i64 a0_3) := (blk_cell BK330.out 3).trans rfl; have hcz68_4 : w67.cell? ⟨gb330, 4, none⟩ = some (.int .i64 a0_4) := (blk_cell BK330.out 4).trans rfl; have hfz68_0 := blk_frozen BK330.out 0; have hfz68_1 := blk_frozen BK330.out 1; have hfz68_2 := blk_frozen BK330.out 2; have hfz68_3 := blk_frozen BK330.out 3; have hfz68_4 := blk_frozen BK330.out 4) | (go_at_call 23; (with_reducible refine (standbylaw56_small.calls k _ _ l0_0 _ _ l0_1 a0_2 a0_3 a0_4 true _ ?side1 ?side2 ?side3 ?side4 A2.out).mono ?_); (case side1 => exact qC HR0_0.out HB.out); (case side2 => exact HC0_0.out); (case side3 => exact qC HR0_1.out HB.out); (case side4 => exact HC0_1.out); rintro e w69 ⟨rfl, hb⟩; have n0_ := Aside0.mk (blk_below (qB BK330.out) hb); have n1_ := Aside0.mk (below_step (qW HB.out) hb); clear BK330 HB; have BK330 := n0_; have HB := n1_; clear n0_ n1_; (try clear hb); (try clear hb2); (try clear hk); (try clear hi); have hcz70_0 : w69.cell? ⟨gb330, 0, none⟩ = some (.slice A0_0 l0_0.length c0_0) := (blk_cell BK330.out 0).trans rfl; have hcz70_1 : w69.cell? ⟨gb330, 1, none⟩ = some (.slice A0_1 l0_1.length c0_1) := (blk_cell BK330.out 1).trans rfl; have hcz70_2 : w69.cell? ⟨gb330, 2, none⟩ = some (.int .i64 a0_2) := (blk_cell BK330.out 2).trans rfl; have hcz70_3 : w69.cell? ⟨gb330, 3, none⟩ = some (.int .i64 a0_3) := (blk_cell BK330.out 3).trans rfl; have hcz70_4 : w69.cell? ⟨gb330, 4, none⟩ = some (.int .i64 a0_4) := (blk_cell BK330.out 4).trans rfl; have hfz70_0 := blk_frozen BK330.out 0; have hfz70_1 := blk_frozen BK330.out 1; have hfz70_2 := blk_frozen BK330.out 2; have hfz70_3 := blk_frozen BK330.out 3; have hfz70_4 := blk_frozen BK330.out 4) | (go_at_call 13; (with_reducible refine (planner_Plan.calls k _ _ l0_0 _ _ l0_1 a0_2 a0_3 a0_4 t333 t336 t339 t342 t345 t346 _ ?side1 ?side2 ?side3 ?side4 A4.out).mono ?_); (case side1 => exact qC HR0_0.out HB.out); (case side2 => exact HC0_0.out); (case side3 => exact qC HR0_1.out HB.out); (case side4 => exact HC0_1.out); rintro e w71 ⟨v334, v337, v340, v343, rfl, ho0, ho1, ho2, ho3, hb⟩; have n0_ := Aside0.mk (Kd.R_lower ho0 (below_size (qW HB.out))); have n1_ := Aside0.mk (Kd.R_lower ho1 (below_size (qW HB.out))); have n2_ := Aside0.mk (Kd.R_lower ho2 (below_size (qW HB.out))); have n3_ := Aside0.mk (Kd.R_lower ho3 (below_size (qW HB.out))); have n4_ := Aside0.mk (blk_below (qB BK330.out) hb); have n5_ := Aside0.mk (below_step (qW HB.out) hb); clear BK330 HB; have HO335 := n0_; have HO338 := n1_; have HO341 := n2_; have HO344 := n3_; have BK330 := n4_; have HB := n5_; clear n0_ n1_ n2_ n3_ n4_ n5_; (try clear hb); (try clear hb2); (try clear hk); (try clear hi); (try clear ho0); (try clear ho1); (try clear ho2); (try clear ho3)) | ((with_reducible refine gate_dst (N := 3) rfl ?_); (try (refine gate_guard (by rfl) ?_; dsimp only)); refine box_event ?hg (N := 3) ?hd (cs := #[.slice none 0 0, .slice none 0 0, .slice none 0 0, .slice none 0 0, .int .i64 0]) (t := 28) ?hr ?_; (case hd => rfl); (case hg => rfl); (case hr => first | (go_simp; done) | (go_simp; rfl)); intro gb347 hg w72 hbox hb; have n0_ := Aside0.mk (Kd.R_below (qR HO335.out) hb); have n1_ := Aside0.mk (Kd.R_below (qR HO338.out) hb); have n2_ := Aside0.mk (Kd.R_below (qR HO341.out) hb); have n3_ := Aside0.mk (Kd.R_below (qR HO344.out) hb); have n4_ := Aside0.mk (blk_below (qB BK330.out) hb); have n5_ := Aside0.mk (below_step (qW HB.out) hb); have n6_ := Aside0.mk (hbox); have n7_ := Aside0.mk ((by rw [hg]; exact (below_size (qW HB.out)) : w.heap.size ≤ gb347)); have n8_ := Aside0.mk ((by rw [hg]; exact (below_size (qW HB.out)) : w.heap.size ≤ gb347)); have n9_ := Aside0.mk ((by rw [hg]; exact Nat.ne_of_lt (blk_lt (qB BK330.out)) : gb330 ≠ gb347)); have n10_ := Aside0.mk ((by rw [hg]; exact Nat.ne_of_gt (blk_lt (qB BK330.out)) : gb347 ≠ gb330)); clear HO335 HO338 HO341 HO344 BK330 HB; have HO335 := n0_; have HO338 := n1_; have HO341 := n2_; have HO344 := n3_; have BK330 := n4_; have HB := n5_; have BK347 := n6_; have GW347 := n7_; have GE347 := n8_; have NB330_347 := n9_; have NB347_330 := n10_; clear n0_ n1_ n2_ n3_ n4_ n5_ n6_ n7_ n8_ n9_ n10_ hb hbox hg; obtain ⟨Ao73, co73, eo73⟩ := Kd.R_slice HO335.out; subst eo73; have hnb74 := NB347_330.out; have hnc74 := NB330_347.out; have hcz75_0 : w72.cell? ⟨gb347, 0, none⟩ = some (.slice none 0 0) := (blk_cell BK347.out 0).trans rfl; have hcz75_1 : w72.cell? ⟨gb347, 1, none⟩ = some (.slice none 0 0) := (blk_cell BK347.out 1).trans rfl; have hcz75_2 : w72.cell? ⟨gb347, 2, none⟩ = some (.slice none 0 0) := (blk_cell BK347.out 2).trans rfl; have hcz75_3 : w72.cell? ⟨gb347, 3, none⟩ = some (.slice none 0 0) := (blk_cell BK347.out 3).trans rfl; have hcz75_4 : w72.cell? ⟨gb347, 4, none⟩ = some (.int .i64 0) := (blk_cell BK347.out 4).trans rfl; have hfz75_0 := blk_frozen BK347.out 0; have hfz75_1 := blk_frozen BK347.out 1; have hfz75_2 := blk_frozen BK347.out 2; have hfz75_3 := blk_frozen BK347.out 3; have hfz75_4 := blk_frozen BK347.out 4; obtain ⟨Ao76, co76, eo76⟩ := Kd.R_slice HO338.out; subst eo76; obtain ⟨Ao77, co77, eo77⟩ := Kd.R_slice HO341.out; subst eo77; obtain ⟨Ao78, co78, eo78⟩ := Kd.R_slice HO344.out; subst eo78) | (go_at_call 12; (with_reducible refine (standbylaw56_awake.calls  t348 _ A66.out).mono ?_); rintro e w79 ⟨rfl, hb⟩; have n0_ := Aside0.mk (Kd.R_below (qR (Kd.R_mono (Kd.R_far (p := ⟨gb347, 4, none⟩) (Kd.R_far (p := ⟨gb347, 3, none⟩) (Kd.R_far (p := ⟨gb347, 2, none⟩) (Kd.R_far (p := ⟨gb347, 1, none⟩) (Kd.R_far (p := ⟨gb347, 0, none⟩) (Kd.R_types HO335.out BK347.out (by decide)) (fun _ hk => hk.2) (.slice Ao73 t333.length co73)) (fun _ hk => hk.2) (.slice Ao76 t336.length co76)) (fun _ hk => hk.2) (.slice Ao77 t339.length co77)) (fun _ hk => hk.2) (.slice Ao78 t342.length co78)) (fun _ hk => hk.2) (.int .i64 t345)) (fun _ h_ => h_.1))) hb); have n1_ := Aside0.mk (Kd.R_below (qR (Kd.R_mono (Kd.R_far (p := ⟨gb347, 4, none⟩) (Kd.R_far (p := ⟨gb347, 3, none⟩) (Kd.R_far (p := ⟨gb347, 2, none⟩) (Kd.R_far (p := ⟨gb347, 1, none⟩) (Kd.R_far (p := ⟨gb347, 0, none⟩) (Kd.R_types HO338.out BK347.out (by decide)) (fun _ hk => hk.2) (.slice Ao73 t333.length co73)) (fun _ hk => hk.2) (.slice Ao76 t336.length co76)) (fun _ hk => hk.2) (.slice Ao77 t339.length co77)) (fun _ hk => hk.2) (.slice Ao78 t342.length co78)) (fun _ hk => hk.2) (.int .i64 t345)) (fun _ h_ => h_.1))) hb); have n2_ := Aside0.mk (Kd.R_below (qR (Kd.R_mono (Kd.R_far (p := ⟨gb347, 4, none⟩) (Kd.R_far (p := ⟨gb347, 3, none⟩) (Kd.R_far (p := ⟨gb347, 2, none⟩) (Kd.R_far (p := ⟨gb347, 1, none⟩) (Kd.R_far (p := ⟨gb347, 0, none⟩) (Kd.R_types HO341.out BK347.out (by decide)) (fun _ hk => hk.2) (.slice Ao73 t333.length co73)) (fun _ hk => hk.2) (.slice Ao76 t336.length co76)) (fun _ hk => hk.2) (.slice Ao77 t339.length co77)) (fun _ hk => hk.2) (.slice Ao78 t342.length co78)) (fun _ hk => hk.2) (.int .i64 t345)) (fun _ h_ => h_.1))) hb); have n3_ := Aside0.mk (Kd.R_below (qR (Kd.R_mono (Kd.R_far (p := ⟨gb347, 4, none⟩) (Kd.R_far (p := ⟨gb347, 3, none⟩) (Kd.R_far (p := ⟨gb347, 2, none⟩) (Kd.R_far (p := ⟨gb347, 1, none⟩) (Kd.R_far (p := ⟨gb347, 0, none⟩) (Kd.R_types HO344.out BK347.out (by decide)) (fun _ hk => hk.2) (.slice Ao73 t333.length co73)) (fun _ hk => hk.2) (.slice Ao76 t336.length co76)) (fun _ hk => hk.2) (.slice Ao77 t339.length co77)) (fun _ hk => hk.2) (.slice Ao78 t342.length co78)) (fun _ hk => hk.2) (.int .i64 t345)) (fun _ h_ => h_.1))) hb); have n4_ := Aside0.mk (blk_below (g := gb330) (o := .cells #[.slice A0_0 l0_0.length c0_0, .slice A0_1 l0_1.length c0_1, .int .i64 a0_2, .int .i64 a0_3, .int .i64 a0_4] 24 (0, 0)) (by (with_reducible repeat (first | refine blk_drewN ?_ _ | refine blk_drew ?_ | refine blk_alloc ?_ _)); refine blk_far ?_ NB330_347.out _; (with_reducible repeat (first | refine blk_drewN ?_ _ | refine blk_drew ?_ | refine blk_alloc ?_ _)); refine blk_far ?_ NB330_347.out _; (with_reducible repeat (first | refine blk_drewN ?_ _ | refine blk_drew ?_ | refine blk_alloc ?_ _)); refine blk_far ?_ NB330_347.out _; (with_reducible repeat (first | refine blk_drewN ?_ _ | refine blk_drew ?_ | refine blk_alloc ?_ _)); refine blk_far ?_ NB330_347.out _; (with_reducible repeat (first | refine blk_drewN ?_ _ | refine blk_drew ?_ | refine blk_alloc ?_ _)); refine blk_far ?_ NB330_347.out _; exact qB BK330.out) hb); have n5_ := Aside0.mk (blk_below (g := gb347) (o := .cells #[.slice Ao73 t333.length co73, .slice Ao76 t336.length co76, .slice Ao77 t339.length co77, .slice Ao78 t342.length co78, .int .i64 t345] 28 (0, 0)) (by (with_reducible repeat (first | refine blk_drewN ?_ _ | refine blk_drew ?_ | refine blk_alloc ?_ _)); refine blk_put (cs := #[.slice Ao73 t333.length co73, .slice Ao76 t336.length co76, .slice Ao77 t339.length co77, .slice Ao78 t342.length co78, .int .i64 0]) ?_ 4 _ rfl; (with_reducible repeat (first | refine blk_drewN ?_ _ | refine blk_drew ?_ | refine blk_alloc ?_ _)); refine blk_put (cs := #[.slice Ao73 t333.length co73, .slice Ao76 t336.length co76, .slice Ao77 t339.length co77, .slice none 0 0, .int .i64 0]) ?_ 3 _ rfl; (with_reducible repeat (first | refine blk_drewN ?_ _ | refine blk_drew ?_ | refine blk_alloc ?_ _)); refine blk_put (cs := #[.slice Ao73 t333.length co73, .slice Ao76 t336.length co76, .slice none 0 0, .slice none 0 0, .int .i64 0]) ?_ 2 _ rfl; (with_reducible repeat (first | refine blk_drewN ?_ _ | refine blk_drew ?_ | refine blk_alloc ?_ _)); refine blk_put (cs := #[.slice Ao73 t333.length co73, .slice none 0 0, .slice none 0 0, .slice none 0 0, .int .i64 0]) ?_ 1 _ rfl; (with_reducible repeat (first | refine blk_drewN ?_ _ | refine blk_drew ?_ | refine blk_alloc ?_ _)); refine blk_put (cs := #[.slice none 0 0, .slice none 0 0, .slice none 0 0, .slice none 0 0, .int .i64 0]) ?_ 0 _ rfl; exact qB BK347.out) hb); have n6_ := Aside0.mk (below_step (qW HB.out) hb); clear HO335 HO338 HO341 HO344 BK330 BK347 HB; have HO335 := n0_; have HO338 := n1_; have HO341 := n2_; have HO344 := n3_; have BK330 := n4_; have BK347 := n5_; have HB := n6_; clear n0_ n1_ n2_ n3_ n4_ n5_ n6_; (try clear hb); (try clear hb2); (try clear hk); (try clear hi))); try go_wp2_with (first | ((with_reducible refine gate_dst (N := 1) rfl ?_); (try (refine gate_guard (by rfl) ?_; dsimp only)); refine box_event ?hg (N := 1) ?hd (cs := #[.slice A0_0 l0_0.length c0_0, .slice A0_1 l0_1.length c0_1, .int .i64 a0_2, .int .i64 a0_3, .int .i64 a0_4]) (t := 24) ?hr ?_; (case hd => rfl); (case hg => rfl); (case hr => first | (go_simp; done) | (go_simp; rfl)); intro gb330 hg w67 hbox hb; have n0_ := Aside0.mk (below_step (qW HB.out) hb); have n1_ := Aside0.mk (hbox); have n2_ := Aside0.mk ((by rw [hg]; exact (below_size (qW HB.out)) : w.heap.size ≤ gb330)); have n3_ := Aside0.mk ((by rw [hg]; exact (below_size (qW HB.out)) : w.heap.size ≤ gb330)); clear HB; have HB := n0_; have BK330 := n1_; have GW330 := n2_; have GE330 := n3_; clear n0_ n1_ n2_ n3_ hb hbox hg; have hcz68_0 : w67.cell? ⟨gb330, 0, none⟩ = some (.slice A0_0 l0_0.length c0_0) := (blk_cell BK330.out 0).trans rfl; have hcz68_1 : w67.cell? ⟨gb330, 1, none⟩ = some (.slice A0_1 l0_1.length c0_1) := (blk_cell BK330.out 1).trans rfl; have hcz68_2 : w67.cell? ⟨gb330, 2, none⟩ = some (.int .i64 a0_2) := (blk_cell BK330.out 2).trans rfl; have hcz68_3 : w67.cell? ⟨gb330, 3, none⟩ = some (.int .i64 a0_3) := (blk_cell BK330.out 3).trans rfl; have hcz68_4 : w67.cell? ⟨gb330, 4, none⟩ = some (.int .i64 a0_4) := (blk_cell BK330.out 4).trans rfl; have hfz68_0 := blk_frozen BK330.out 0; have hfz68_1 := blk_frozen BK330.out 1; have hfz68_2 := blk_frozen BK330.out 2; have hfz68_3 := blk_frozen BK330.out 3; have hfz68_4 := blk_frozen BK330.out 4) | (go_at_call 23; (with_reducible refine (standbylaw56_small.calls k _ _ l0_0 _ _ l0_1 a0_2 a0_3 a0_4 true _ ?side1 ?side2 ?side3 ?side4 A2.out).mono ?_); (case side1 => exact qC HR0_0.out HB.out); (case side2 => exact HC0_0.out); (case side3 => exact qC HR0_1.out HB.out); (case side4 => exact HC0_1.out); rintro e w69 ⟨rfl, hb⟩; have n0_ := Aside0.mk (blk_below (qB BK330.out) hb); have n1_ := Aside0.mk (below_step (qW HB.out) hb); clear BK330 HB; have BK330 := n0_; have HB := n1_; clear n0_ n1_; (try clear hb); (try clear hb2); (try clear hk); (try clear hi); have hcz70_0 : w69.cell? ⟨gb330, 0, none⟩ = some (.slice A0_0 l0_0.length c0_0) := (blk_cell BK330.out 0).trans rfl; have hcz70_1 : w69.cell? ⟨gb330, 1, none⟩ = some (.slice A0_1 l0_1.length c0_1) := (blk_cell BK330.out 1).trans rfl; have hcz70_2 : w69.cell? ⟨gb330, 2, none⟩ = some (.int .i64 a0_2) := (blk_cell BK330.out 2).trans rfl; have hcz70_3 : w69.cell? ⟨gb330, 3, none⟩ = some (.int .i64 a0_3) := (blk_cell BK330.out 3).trans rfl; have hcz70_4 : w69.cell? ⟨gb330, 4, none⟩ = some (.int .i64 a0_4) := (blk_cell BK330.out 4).trans rfl; have hfz70_0 := blk_frozen BK330.out 0; have hfz70_1 := blk_frozen BK330.out 1; have hfz70_2 := blk_frozen BK330.out 2; have hfz70_3 := blk_frozen BK330.out 3; have hfz70_4 := blk_frozen BK330.out 4) | (go_at_call 13; (with_reducible refine (planner_Plan.calls k _ _ l0_0 _ _ l0_1 a0_2 a0_3 a0_4 t333 t336 t339 t342 t345 t346 _ ?side1 ?side2 ?side3 ?side4 A4.out).mono ?_); (case side1 => exact qC HR0_0.out HB.out); (case side2 => exact HC0_0.out); (case side3 => exact qC HR0_1.out HB.out); (case side4 => exact HC0_1.out); rintro e w71 ⟨v334, v337, v340, v343, rfl, ho0, ho1, ho2, ho3, hb⟩; have n0_ := Aside0.mk (Kd.R_lower ho0 (below_size (qW HB.out))); have n1_ := Aside0.mk (Kd.R_lower ho1 (below_size (qW HB.out))); have n2_ := Aside0.mk (Kd.R_lower ho2 (below_size (qW HB.out))); have n3_ := Aside0.mk (Kd.R_lower ho3 (below_size (qW HB.out))); have n4_ := Aside0.mk (blk_below (qB BK330.out) hb); have n5_ := Aside0.mk (below_step (qW HB.out) hb); clear BK330 HB; have HO335 := n0_; have HO338 := n1_; have HO341 := n2_; have HO344 := n3_; have BK330 := n4_; have HB := n5_; clear n0_ n1_ n2_ n3_ n4_ n5_; (try clear hb); (try clear hb2); (try clear hk); (try clear hi); (try clear ho0); (try clear ho1); (try clear ho2); (try clear ho3)) | ((with_reducible refine gate_dst (N := 3) rfl ?_); (try (refine gate_guard (by rfl) ?_; dsimp only)); refine box_event ?hg (N := 3) ?hd (cs := #[.slice none 0 0, .slice none 0 0, .slice none 0 0, .slice none 0 0, .int .i64 0]) (t := 28) ?hr ?_; (case hd => rfl); (case hg => rfl); (case hr => first | (go_simp; done) | (go_simp; rfl)); intro gb347 hg w72 hbox hb; have n0_ := Aside0.mk (Kd.R_below (qR HO335.out) hb); have n1_ := Aside0.mk (Kd.R_below (qR HO338.out) hb); have n2_ := Aside0.mk (Kd.R_below (qR HO341.out) hb); have n3_ := Aside0.mk (Kd.R_below (qR HO344.out) hb); have n4_ := Aside0.mk (blk_below (qB BK330.out) hb); have n5_ := Aside0.mk (below_step (qW HB.out) hb); have n6_ := Aside0.mk (hbox); have n7_ := Aside0.mk ((by rw [hg]; exact (below_size (qW HB.out)) : w.heap.size ≤ gb347)); have n8_ := Aside0.mk ((by rw [hg]; exact (below_size (qW HB.out)) : w.heap.size ≤ gb347)); have n9_ := Aside0.mk ((by rw [hg]; exact Nat.ne_of_lt (blk_lt (qB BK330.out)) : gb330 ≠ gb347)); have n10_ := Aside0.mk ((by rw [hg]; exact Nat.ne_of_gt (blk_lt (qB BK330.out)) : gb347 ≠ gb330)); clear HO335 HO338 HO341 HO344 BK330 HB; have HO335 := n0_; have HO338 := n1_; have HO341 := n2_; have HO344 := n3_; have BK330 := n4_; have HB := n5_; have BK347 := n6_; have GW347 := n7_; have GE347 := n8_; have NB330_347 := n9_; have NB347_330 := n10_; clear n0_ n1_ n2_ n3_ n4_ n5_ n6_ n7_ n8_ n9_ n10_ hb hbox hg; obtain ⟨Ao73, co73, eo73⟩ := Kd.R_slice HO335.out; subst eo73; have hnb74 := NB347_330.out; have hnc74 := NB330_347.out; have hcz75_0 : w72.cell? ⟨gb347, 0, none⟩ = some (.slice none 0 0) := (blk_cell BK347.out 0).trans rfl; have hcz75_1 : w72.cell? ⟨gb347, 1, none⟩ = some (.slice none 0 0) := (blk_cell BK347.out 1).trans rfl; have hcz75_2 : w72.cell? ⟨gb347, 2, none⟩ = some (.slice none 0 0) := (blk_cell BK347.out 2).trans rfl; have hcz75_3 : w72.cell? ⟨gb347, 3, none⟩ = some (.slice none 0 0) := (blk_cell BK347.out 3).trans rfl; have hcz75_4 : w72.cell? ⟨gb347, 4, none⟩ = some (.int .i64 0) := (blk_cell BK347.out 4).trans rfl; have hfz75_0 := blk_frozen BK347.out 0; have hfz75_1 := blk_frozen BK347.out 1; have hfz75_2 := blk_frozen BK347.out 2; have hfz75_3 := blk_frozen BK347.out 3; have hfz75_4 := blk_frozen BK347.out 4; obtain ⟨Ao76, co76, eo76⟩ := Kd.R_slice HO338.out; subst eo76; obtain ⟨Ao77, co77, eo77⟩ := Kd.R_slice HO341.out; subst eo77; obtain ⟨Ao78, co78, eo78⟩ := Kd.R_slice HO344.out; subst eo78) | (go_at_call 12; (with_reducible refine (standbylaw56_awake.calls  t348 _ A66.out).mono ?_); rintro e w79 ⟨rfl, hb⟩; have n0_ := Aside0.mk (Kd.R_below (qR (Kd.R_mono (Kd.R_far (p := ⟨gb347, 4, none⟩) (Kd.R_far (p := ⟨gb347, 3, none⟩) (Kd.R_far (p := ⟨gb347, 2, none⟩) (Kd.R_far (p := ⟨gb347, 1, none⟩) (Kd.R_far (p := ⟨gb347, 0, none⟩) (Kd.R_types HO335.out BK347.out (by decide)) (fun _ hk => hk.2) (.slice Ao73 t333.length co73)) (fun _ hk => hk.2) (.slice Ao76 t336.length co76)) (fun _ hk => hk.2) (.slice Ao77 t339.length co77)) (fun _ hk => hk.2) (.slice Ao78 t342.length co78)) (fun _ hk => hk.2) (.int .i64 t345)) (fun _ h_ => h_.1))) hb); have n1_ := Aside0.mk (Kd.R_below (qR (Kd.R_mono (Kd.R_far (p := ⟨gb347, 4, none⟩) (Kd.R_far (p := ⟨gb347, 3, none⟩) (Kd.R_far (p := ⟨gb347, 2, none⟩) (Kd.R_far (p := ⟨gb347, 1, none⟩) (Kd.R_far (p := ⟨gb347, 0, none⟩) (Kd.R_types HO338.out BK347.out (by decide)) (fun _ hk => hk.2) (.slice Ao73 t333.length co73)) (fun _ hk => hk.2) (.slice Ao76 t336.length co76)) (fun _ hk => hk.2) (.slice Ao77 t339.length co77)) (fun _ hk => hk.2) (.slice Ao78 t342.length co78)) (fun _ hk => hk.2) (.int .i64 t345)) (fun _ h_ => h_.1))) hb); have n2_ := Aside0.mk (Kd.R_below (qR (Kd.R_mono (Kd.R_far (p := ⟨gb347, 4, none⟩) (Kd.R_far (p := ⟨gb347, 3, none⟩) (Kd.R_far (p := ⟨gb347, 2, none⟩) (Kd.R_far (p := ⟨gb347, 1, none⟩) (Kd.R_far (p := ⟨gb347, 0, none⟩) (Kd.R_types HO341.out BK347.out (by decide)) (fun _ hk => hk.2) (.slice Ao73 t333.length co73)) (fun _ hk => hk.2) (.slice Ao76 t336.length co76)) (fun _ hk => hk.2) (.slice Ao77 t339.length co77)) (fun _ hk => hk.2) (.slice Ao78 t342.length co78)) (fun _ hk => hk.2) (.int .i64 t345)) (fun _ h_ => h_.1))) hb); have n3_ := Aside0.mk (Kd.R_below (qR (Kd.R_mono (Kd.R_far (p := ⟨gb347, 4, none⟩) (Kd.R_far (p := ⟨gb347, 3, none⟩) (Kd.R_far (p := ⟨gb347, 2, none⟩) (Kd.R_far (p := ⟨gb347, 1, none⟩) (Kd.R_far (p := ⟨gb347, 0, none⟩) (Kd.R_types HO344.out BK347.out (by decide)) (fun _ hk => hk.2) (.slice Ao73 t333.length co73)) (fun _ hk => hk.2) (.slice Ao76 t336.length co76)) (fun _ hk => hk.2) (.slice Ao77 t339.length co77)) (fun _ hk => hk.2) (.slice Ao78 t342.length co78)) (fun _ hk => hk.2) (.int .i64 t345)) (fun _ h_ => h_.1))) hb); have n4_ := Aside0.mk (blk_below (g := gb330) (o := .cells #[.slice A0_0 l0_0.length c0_0, .slice A0_1 l0_1.length c0_1, .int .i64 a0_2, .int .i64 a0_3, .int .i64 a0_4] 24 (0, 0)) (by (with_reducible repeat (first | refine blk_drewN ?_ _ | refine blk_drew ?_ | refine blk_alloc ?_ _)); refine blk_far ?_ NB330_347.out _; (with_reducible repeat (first | refine blk_drewN ?_ _ | refine blk_drew ?_ | refine blk_alloc ?_ _)); refine blk_far ?_ NB330_347.out _; (with_reducible repeat (first | refine blk_drewN ?_ _ | refine blk_drew ?_ | refine blk_alloc ?_ _)); refine blk_far ?_ NB330_347.out _; (with_reducible repeat (first | refine blk_drewN ?_ _ | refine blk_drew ?_ | refine blk_alloc ?_ _)); refine blk_far ?_ NB330_347.out _; (with_reducible repeat (first | refine blk_drewN ?_ _ | refine blk_drew ?_ | refine blk_alloc ?_ _)); refine blk_far ?_ NB330_347.out _; exact qB BK330.out) hb); have n5_ := Aside0.mk (blk_below (g := gb347) (o := .cells #[.slice Ao73 t333.length co73, .slice Ao76 t336.length co76, .slice Ao77 t339.length co77, .slice Ao78 t342.length co78, .int .i64 t345] 28 (0, 0)) (by (with_reducible repeat (first | refine blk_drewN ?_ _ | refine blk_drew ?_ | refine blk_alloc ?_ _)); refine blk_put (cs := #[.slice Ao73 t333.length co73, .slice Ao76 t336.length co76, .slice Ao77 t339.length co77, .slice Ao78 t342.length co78, .int .i64 0]) ?_ 4 _ rfl; (with_reducible repeat (first | refine blk_drewN ?_ _ | refine blk_drew ?_ | refine blk_alloc ?_ _)); refine blk_put (cs := #[.slice Ao73 t333.length co73, .slice Ao76 t336.length co76, .slice Ao77 t339.length co77, .slice none 0 0, .int .i64 0]) ?_ 3 _ rfl; (with_reducible repeat (first | refine blk_drewN ?_ _ | refine blk_drew ?_ | refine blk_alloc ?_ _)); refine blk_put (cs := #[.slice Ao73 t333.length co73, .slice Ao76 t336.length co76, .slice none 0 0, .slice none 0 0, .int .i64 0]) ?_ 2 _ rfl; (with_reducible repeat (first | refine blk_drewN ?_ _ | refine blk_drew ?_ | refine blk_alloc ?_ _)); refine blk_put (cs := #[.slice Ao73 t333.length co73, .slice none 0 0, .slice none 0 0, .slice none 0 0, .int .i64 0]) ?_ 1 _ rfl; (with_reducible repeat (first | refine blk_drewN ?_ _ | refine blk_drew ?_ | refine blk_alloc ?_ _)); refine blk_put (cs := #[.slice none 0 0, .slice none 0 0, .slice none 0 0, .slice none 0 0, .int .i64 0]) ?_ 0 _ rfl; exact qB BK347.out) hb); have n6_ := Aside0.mk (below_step (qW HB.out) hb); clear HO335 HO338 HO341 HO344 BK330 BK347 HB; have HO335 := n0_; have HO338 := n1_; have HO341 := n2_; have HO344 := n3_; have BK330 := n4_; have BK347 := n5_; have HB := n6_; clear n0_ n1_ n2_ n3_ n4_ n5_ n6_; (try clear hb); (try clear hb2); (try clear hk); (try clear hi))))
  go_ret
  exact ⟨by first | rfl | (simp [errW_none, errW_some] <;> rfl) | (simp [*, errW_none, errW_some] <;> rfl), by repeat (first | (with_reducible first | exact HB.out | apply below_alloc | apply pw_below_drewN | apply below_drew1 | refine below_set ?_ GE330.out | refine below_set ?_ GE347.out) | exact HB.out)⟩
 rw [if_pos c5] at H
 have c5b0 : (t346 == 0) = true := beq_iff_eq.mpr c5
 have c5b1 : (t346 != 0) = false := bne_eq_false_iff_eq.mpr c5
 clear c5
 by_cases c6 : a0_2 = 0
 ·rw [if_pos c6] at H
  exact absurd H (by simp)
 ·rw [if_neg c6] at H
  have c6b0 : (a0_2 == 0) = false := beq_eq_false_iff_ne.mpr c6
  have c6b1 : (a0_2 != 0) = true := bne_iff_ne.mpr c6
  by_cases c7 : (t333.length : Int) = (wrap64 (Int.tdiv (wrap64 ((wrap64 ((l0_0.length : Int) + a0_2)) - 1)) a0_2))
  case neg =>
   rw [if_neg c7] at H
   exact absurd H (by simp)
  rw [if_pos c7] at H
  have c7b0 : ((t333.length : Int) == (wrap64 (Int.tdiv (wrap64 ((wrap64 ((l0_0.length : Int) + a0_2)) - 1)) a0_2))) = true := beq_iff_eq.mpr c7
  have c7b1 : ((t333.length : Int) != (wrap64 (Int.tdiv (wrap64 ((wrap64 ((l0_0.length : Int) + a0_2)) - 1)) a0_2))) = false := bne_eq_false_iff_eq.mpr c7
  clear c7
  by_cases c8 : (t336.length : Int) = (wrap64 (Int.tdiv (wrap64 ((wrap64 ((l0_0.length : Int) + a0_2)) - 1)) a0_2))
  case neg =>
   rw [if_neg c8] at H
   exact absurd H (by simp)
  rw [if_pos c8] at H
  have c8b0 : ((t336.length : Int) == (wrap64 (Int.tdiv (wrap64 ((wrap64 ((l0_0.length : Int) + a0_2)) - 1)) a0_2))) = true := beq_iff_eq.mpr c8
  have c8b1 : ((t336.length : Int) != (wrap64 (Int.tdiv (wrap64 ((wrap64 ((l0_0.length : Int) + a0_2)) - 1)) a0_2))) = false := bne_eq_false_iff_eq.mpr c8
  clear c8
  by_cases c9 : (t339.length : Int) = (wrap64 (Int.tdiv (wrap64 ((wrap64 ((l0_0.length : Int) + a0_2)) - 1)) a0_2))
  case neg =>
   rw [if_neg c9] at H
   exact absurd H (by simp)
  rw [if_pos c9] at H
  have c9b0 : ((t339.length : Int) == (wrap64 (Int.tdiv (wrap64 ((wrap64 ((l0_0.length : Int) + a0_2)) - 1)) a0_2))) = true := beq_iff_eq.mpr c9
  have c9b1 : ((t339.length : Int) != (wrap64 (Int.tdiv (wrap64 ((wrap64 ((l0_0.length : Int) + a0_2)) - 1)) a0_2))) = false := bne_eq_false_iff_eq.mpr c9
  clear c9
  by_cases c10 : (t342.length : Int) = (wrap64 (Int.tdiv (wrap64 ((wrap64 ((l0_0.length : Int) + a0_2)) - 1)) a0_2))
  case neg =>
   rw [if_neg c10] at H
   exact absurd H (by simp)
  rw [if_pos c10] at H
  have c10b0 : ((t342.length : Int) == (wrap64 (Int.tdiv (wrap64 ((wrap64 ((l0_0.length : Int) + a0_2)) - 1)) a0_2))) = true := beq_iff_eq.mpr c10
  have c10b1 : ((t342.length : Int) != (wrap64 (Int.tdiv (wrap64 ((wrap64 ((l0_0.length : Int) + a0_2)) - 1)) a0_2))) = false := bne_eq_false_iff_eq.mpr c10
  clear c10
  have H' := Aside0.mk H
  clear H
  go_enter Try.func6, Try.ntmps6
  go_wp2_with (first | ((with_reducible refine gate_dst (N := 1) rfl ?_); (try (refine gate_guard (by rfl) ?_; dsimp only)); refine box_event ?hg (N := 1) ?hd (cs := #[.slice A0_0 l0_0.length c0_0, .slice A0_1 l0_1.length c0_1, .int .i64 a0_2, .int .i64 a0_3, .int .i64 a0_4]) (t := 24) ?hr ?_; (case hd => rfl); (case hg => rfl); (case hr => first | (go_simp; done) | (go_simp; rfl)); intro gb330 hg w11 hbox hb; have n0_ := Aside0.mk (below_step (qW HB.out) hb); have n1_ := Aside0.mk (hbox); have n2_ := Aside0.mk ((by rw [hg]; exact (below_size (qW HB.out)) : w.heap.size ≤ gb330)); have n3_ := Aside0.mk ((by rw [hg]; exact (below_size (qW HB.out)) : w.heap.size ≤ gb330)); clear HB; have HB := n0_; have BK330 := n1_; have GW330 := n2_; have GE330 := n3_; clear n0_ n1_ n2_ n3_ hb hbox hg; have hcz12_0 : w11.cell? ⟨gb330, 0, none⟩ = some (.slice A0_0 l0_0.length c0_0) := (blk_cell BK330.out 0).trans rfl; have hcz12_1 : w11.cell? ⟨gb330, 1, none⟩ = some (.slice A0_1 l0_1.length c0_1) := (blk_cell BK330.out 1).trans rfl; have hcz12_2 : w11.cell? ⟨gb330, 2, none⟩ = some (.int .i64 a0_2) := (blk_cell BK330.out 2).trans rfl; have hcz12_3 : w11.cell? ⟨gb330, 3, none⟩ = some (.int .i64 a0_3) := (blk_cell BK330.out 3).trans rfl; have hcz12_4 : w11.cell? ⟨gb330, 4, none⟩ = some (.int .i64 a0_4) := (blk_cell BK330.out 4).trans rfl; have hfz12_0 := blk_frozen BK330.out 0; have hfz12_1 := blk_frozen BK330.out 1; have hfz12_2 := blk_frozen BK330.out 2; have hfz12_3 := blk_frozen BK330.out 3; have hfz12_4 := blk_frozen BK330.out 4) | (go_at_call 23; (with_reducible refine (standbylaw56_small.calls k _ _ l0_0 _ _ l0_1 a0_2 a0_3 a0_4 true _ ?side1 ?side2 ?side3 ?side4 A2.out).mono ?_); (case side1 => exact qC HR0_0.out HB.out); (case side2 => exact HC0_0.out); (case side3 => exact qC HR0_1.out HB.out); (case side4 => exact HC0_1.out); rintro e w13 ⟨rfl, hb⟩; have n0_ := Aside0.mk (blk_below (qB BK330.out) hb); have n1_ := Aside0.mk (below_step (qW HB.out) hb); clear BK330 HB; have BK330 := n0_; have HB := n1_; clear n0_ n1_; (try clear hb); (try clear hb2); (try clear hk); (try clear hi); have hcz14_0 : w13.cell? ⟨gb330, 0, none⟩ = some (.slice A0_0 l0_0.length c0_0) := (blk_cell BK330.out 0).trans rfl; have hcz14_1 : w13.cell? ⟨gb330, 1, none⟩ = some (.slice A0_1 l0_1.length c0_1) := (blk_cell BK330.out 1).trans rfl; have hcz14_2 : w13.cell? ⟨gb330, 2, none⟩ = some (.int .i64 a0_2) := (blk_cell BK330.out 2).trans rfl; have hcz14_3 : w13.cell? ⟨gb330, 3, none⟩ = some (.int .i64 a0_3) := (blk_cell BK330.out 3).trans rfl; have hcz14_4 : w13.cell? ⟨gb330, 4, none⟩ = some (.int .i64 a0_4) := (blk_cell BK330.out 4).trans rfl; have hfz14_0 := blk_frozen BK330.out 0; have hfz14_1 := blk_frozen BK330.out 1; have hfz14_2 := blk_frozen BK330.out 2; have hfz14_3 := blk_frozen BK330.out 3; have hfz14_4 := blk_frozen BK330.out 4) | (go_at_call 13; (with_reducible refine (planner_Plan.calls k _ _ l0_0 _ _ l0_1 a0_2 a0_3 a0_4 t333 t336 t339 t342 t345 t346 _ ?side1 ?side2 ?side3 ?side4 A4.out).mono ?_); (case side1 => exact qC HR0_0.out HB.out); (case side2 => exact HC0_0.out); (case side3 => exact qC HR0_1.out HB.out); (case side4 => exact HC0_1.out); rintro e w15 ⟨v334, v337, v340, v343, rfl, ho0, ho1, ho2, ho3, hb⟩; have n0_ := Aside0.mk (Kd.R_lower ho0 (below_size (qW HB.out))); have n1_ := Aside0.mk (Kd.R_lower ho1 (below_size (qW HB.out))); have n2_ := Aside0.mk (Kd.R_lower ho2 (below_size (qW HB.out))); have n3_ := Aside0.mk (Kd.R_lower ho3 (below_size (qW HB.out))); have n4_ := Aside0.mk (blk_below (qB BK330.out) hb); have n5_ := Aside0.mk (below_step (qW HB.out) hb); clear BK330 HB; have HO335 := n0_; have HO338 := n1_; have HO341 := n2_; have HO344 := n3_; have BK330 := n4_; have HB := n5_; clear n0_ n1_ n2_ n3_ n4_ n5_; (try clear hb); (try clear hb2); (try clear hk); (try clear hi); (try clear ho0); (try clear ho1); (try clear ho2); (try clear ho3)) | ((with_reducible refine gate_dst (N := 3) rfl ?_); (try (refine gate_guard (by rfl) ?_; dsimp only)); refine box_event ?hg (N := 3) ?hd (cs := #[.slice none 0 0, .slice none 0 0, .slice none 0 0, .slice none 0 0, .int .i64 0]) (t := 28) ?hr ?_; (case hd => rfl); (case hg => rfl); (case hr => first | (go_simp; done) | (go_simp; rfl)); intro gb347 hg w16 hbox hb; have n0_ := Aside0.mk (Kd.R_below (qR HO335.out) hb); have n1_ := Aside0.mk (Kd.R_below (qR HO338.out) hb); have n2_ := Aside0.mk (Kd.R_below (qR HO341.out) hb); have n3_ := Aside0.mk (Kd.R_below (qR HO344.out) hb); have n4_ := Aside0.mk (blk_below (qB BK330.out) hb); have n5_ := Aside0.mk (below_step (qW HB.out) hb); have n6_ := Aside0.mk (hbox); have n7_ := Aside0.mk ((by rw [hg]; exact (below_size (qW HB.out)) : w.heap.size ≤ gb347)); have n8_ := Aside0.mk ((by rw [hg]; exact (below_size (qW HB.out)) : w.heap.size ≤ gb347)); have n9_ := Aside0.mk ((by rw [hg]; exact Nat.ne_of_lt (blk_lt (qB BK330.out)) : gb330 ≠ gb347)); have n10_ := Aside0.mk ((by rw [hg]; exact Nat.ne_of_gt (blk_lt (qB BK330.out)) : gb347 ≠ gb330)); clear HO335 HO338 HO341 HO344 BK330 HB; have HO335 := n0_; have HO338 := n1_; have HO341 := n2_; have HO344 := n3_; have BK330 := n4_; have HB := n5_; have BK347 := n6_; have GW347 := n7_; have GE347 := n8_; have NB330_347 := n9_; have NB347_330 := n10_; clear n0_ n1_ n2_ n3_ n4_ n5_ n6_ n7_ n8_ n9_ n10_ hb hbox hg; obtain ⟨Ao17, co17, eo17⟩ := Kd.R_slice HO335.out; subst eo17; have hnb18 := NB347_330.out; have hnc18 := NB330_347.out; have hcz19_0 : w16.cell? ⟨gb347, 0, none⟩ = some (.slice none 0 0) := (blk_cell BK347.out 0).trans rfl; have hcz19_1 : w16.cell? ⟨gb347, 1, none⟩ = some (.slice none 0 0) := (blk_cell BK347.out 1).trans rfl; have hcz19_2 : w16.cell? ⟨gb347, 2, none⟩ = some (.slice none 0 0) := (blk_cell BK347.out 2).trans rfl; have hcz19_3 : w16.cell? ⟨gb347, 3, none⟩ = some (.slice none 0 0) := (blk_cell BK347.out 3).trans rfl; have hcz19_4 : w16.cell? ⟨gb347, 4, none⟩ = some (.int .i64 0) := (blk_cell BK347.out 4).trans rfl; have hfz19_0 := blk_frozen BK347.out 0; have hfz19_1 := blk_frozen BK347.out 1; have hfz19_2 := blk_frozen BK347.out 2; have hfz19_3 := blk_frozen BK347.out 3; have hfz19_4 := blk_frozen BK347.out 4; obtain ⟨Ao20, co20, eo20⟩ := Kd.R_slice HO338.out; subst eo20; obtain ⟨Ao21, co21, eo21⟩ := Kd.R_slice HO341.out; subst eo21; obtain ⟨Ao22, co22, eo22⟩ := Kd.R_slice HO344.out; subst eo22; have hcz23_0 : w16.cell? ⟨gb330, 0, none⟩ = some (.slice A0_0 l0_0.length c0_0) := (blk_cell BK330.out 0).trans rfl; have hcz23_1 : w16.cell? ⟨gb330, 1, none⟩ = some (.slice A0_1 l0_1.length c0_1) := (blk_cell BK330.out 1).trans rfl; have hcz23_2 : w16.cell? ⟨gb330, 2, none⟩ = some (.int .i64 a0_2) := (blk_cell BK330.out 2).trans rfl; have hcz23_3 : w16.cell? ⟨gb330, 3, none⟩ = some (.int .i64 a0_3) := (blk_cell BK330.out 3).trans rfl; have hcz23_4 : w16.cell? ⟨gb330, 4, none⟩ = some (.int .i64 a0_4) := (blk_cell BK330.out 4).trans rfl; have hfz23_0 := blk_frozen BK330.out 0; have hfz23_1 := blk_frozen BK330.out 1; have hfz23_2 := blk_frozen BK330.out 2; have hfz23_3 := blk_frozen BK330.out 3; have hfz23_4 := blk_frozen BK330.out 4))
  repeat (go_quiet (first | ((with_reducible refine gate_dst (N := 1) rfl ?_); (try (refine gate_guard (by rfl) ?_; dsimp only)); refine box_event ?hg (N := 1) ?hd (cs := #[.slice A0_0 l0_0.length c0_0, .slice A0_1 l0_1.length c0_1, .int .i64 a0_2, .int .i64 a0_3, .int .i64 a0_4]) (t := 24) ?hr ?_; (case hd => rfl); (case hg => rfl); (case hr => first | (go_simp; done) | (go_simp; rfl)); intro gb330 hg w11 hbox hb; have n0_ := Aside0.mk (below_step (qW HB.out) hb); have n1_ := Aside0.mk (hbox); have n2_ := Aside0.mk ((by rw [hg]; exact (below_size (qW HB.out)) : w.heap.size ≤ gb330)); have n3_ := Aside0.mk ((by rw [hg]; exact (below_size (qW HB.out)) : w.heap.size ≤ gb330)); clear HB; have HB := n0_; have BK330 := n1_; have GW330 := n2_; have GE330 := n3_; clear n0_ n1_ n2_ n3_ hb hbox hg; have hcz12_0 : w11.cell? ⟨gb330, 0, none⟩ = some (.slice A0_0 l0_0.length c0_0) := (blk_cell BK330.out 0).trans rfl; have hcz12_1 : w11.cell? ⟨gb330, 1, none⟩ = some (.slice A0_1 l0_1.length c0_1) := (blk_cell BK330.out 1).trans rfl; have hcz12_2 : w11.cell? ⟨gb330, 2, none⟩ = some (.int .i64 a0_2) := (blk_cell BK330.out 2).trans rfl; have hcz12_3 : w11.cell? ⟨gb330, 3, none⟩ = some (.int .i64 a0_3) := (blk_cell BK330.out 3).trans rfl; have hcz12_4 : w11.cell? ⟨gb330, 4, none⟩ = some (.int .i64 a0_4) := (blk_cell BK330.out 4).trans rfl; have hfz12_0 := blk_frozen BK330.out 0; have hfz12_1 := blk_frozen BK330.out 1; have hfz12_2 := blk_frozen BK330.out 2; have hfz12_3 := blk_frozen BK330.out 3; have hfz12_4 := blk_frozen BK330.out 4) | (go_at_call 23; (with_reducible refine (standbylaw56_small.calls k _ _ l0_0 _ _ l0_1 a0_2 a0_3 a0_4 true _ ?side1 ?side2 ?side3 ?side4 A2.out).mono ?_); (case side1 => exact qC HR0_0.out HB.out); (case side2 => exact HC0_0.out); (case side3 => exact qC HR0_1.out HB.out); (case side4 => exact HC0_1.out); rintro e w13 ⟨rfl, hb⟩; have n0_ := Aside0.mk (blk_below (qB BK330.out) hb); have n1_ := Aside0.mk (below_step (qW HB.out) hb); clear BK330 HB; have BK330 := n0_; have HB := n1_; clear n0_ n1_; (try clear hb); (try clear hb2); (try clear hk); (try clear hi); have hcz14_0 : w13.cell? ⟨gb330, 0, none⟩ = some (.slice A0_0 l0_0.length c0_0) := (blk_cell BK330.out 0).trans rfl; have hcz14_1 : w13.cell? ⟨gb330, 1, none⟩ = some (.slice A0_1 l0_1.length c0_1) := (blk_cell BK330.out 1).trans rfl; have hcz14_2 : w13.cell? ⟨gb330, 2, none⟩ = some (.int .i64 a0_2) := (blk_cell BK330.out 2).trans rfl; have hcz14_3 : w13.cell? ⟨gb330, 3, none⟩ = some (.int .i64 a0_3) := (blk_cell BK330.out 3).trans rfl; have hcz14_4 : w13.cell? ⟨gb330, 4, none⟩ = some (.int .i64 a0_4) := (blk_cell BK330.out 4).trans rfl; have hfz14_0 := blk_frozen BK330.out 0; have hfz14_1 := blk_frozen BK330.out 1; have hfz14_2 := blk_frozen BK330.out 2; have hfz14_3 := blk_frozen BK330.out 3; have hfz14_4 := blk_frozen BK330.out 4) | (go_at_call 13; (with_reducible refine (planner_Plan.calls k _ _ l0_0 _ _ l0_1 a0_2 a0_3 a0_4 t333 t336 t339 t342 t345 t346 _ ?side1 ?side2 ?side3 ?side4 A4.out).mono ?_); (case side1 => exact qC HR0_0.out HB.out); (case side2 => exact HC0_0.out); (case side3 => exact qC HR0_1.out HB.out); (case side4 => exact HC0_1.out); rintro e w15 ⟨v334, v337, v340, v343, rfl, ho0, ho1, ho2, ho3, hb⟩; have n0_ := Aside0.mk (Kd.R_lower ho0 (below_size (qW HB.out))); have n1_ := Aside0.mk (Kd.R_lower ho1 (below_size (qW HB.out))); have n2_ := Aside0.mk (Kd.R_lower ho2 (below_size (qW HB.out))); have n3_ := Aside0.mk (Kd.R_lower ho3 (below_size (qW HB.out))); have n4_ := Aside0.mk (blk_below (qB BK330.out) hb); have n5_ := Aside0.mk (below_step (qW HB.out) hb); clear BK330 HB; have HO335 := n0_; have HO338 := n1_; have HO341 := n2_; have HO344 := n3_; have BK330 := n4_; have HB := n5_; clear n0_ n1_ n2_ n3_ n4_ n5_; (try clear hb); (try clear hb2); (try clear hk); (try clear hi); (try clear ho0); (try clear ho1); (try clear ho2); (try clear ho3)) | ((with_reducible refine gate_dst (N := 3) rfl ?_); (try (refine gate_guard (by rfl) ?_; dsimp only)); refine box_event ?hg (N := 3) ?hd (cs := #[.slice none 0 0, .slice none 0 0, .slice none 0 0, .slice none 0 0, .int .i64 0]) (t := 28) ?hr ?_; (case hd => rfl); (case hg => rfl); (case hr => first | (go_simp; done) | (go_simp; rfl)); intro gb347 hg w16 hbox hb; have n0_ := Aside0.mk (Kd.R_below (qR HO335.out) hb); have n1_ := Aside0.mk (Kd.R_below (qR HO338.out) hb); have n2_ := Aside0.mk (Kd.R_below (qR HO341.out) hb); have n3_ := Aside0.mk (Kd.R_below (qR HO344.out) hb); have n4_ := Aside0.mk (blk_below (qB BK330.out) hb); have n5_ := Aside0.mk (below_step (qW HB.out) hb); have n6_ := Aside0.mk (hbox); have n7_ := Aside0.mk ((by rw [hg]; exact (below_size (qW HB.out)) : w.heap.size ≤ gb347)); have n8_ := Aside0.mk ((by rw [hg]; exact (below_size (qW HB.out)) : w.heap.size ≤ gb347)); have n9_ := Aside0.mk ((by rw [hg]; exact Nat.ne_of_lt (blk_lt (qB BK330.out)) : gb330 ≠ gb347)); have n10_ := Aside0.mk ((by rw [hg]; exact Nat.ne_of_gt (blk_lt (qB BK330.out)) : gb347 ≠ gb330)); clear HO335 HO338 HO341 HO344 BK330 HB; have HO335 := n0_; have HO338 := n1_; have HO341 := n2_; have HO344 := n3_; have BK330 := n4_; have HB := n5_; have BK347 := n6_; have GW347 := n7_; have GE347 := n8_; have NB330_347 := n9_; have NB347_330 := n10_; clear n0_ n1_ n2_ n3_ n4_ n5_ n6_ n7_ n8_ n9_ n10_ hb hbox hg; obtain ⟨Ao17, co17, eo17⟩ := Kd.R_slice HO335.out; subst eo17; have hnb18 := NB347_330.out; have hnc18 := NB330_347.out; have hcz19_0 : w16.cell? ⟨gb347, 0, none⟩ = some (.slice none 0 0) := (blk_cell BK347.out 0).trans rfl; have hcz19_1 : w16.cell? ⟨gb347, 1, none⟩ = some (.slice none 0 0) := (blk_cell BK347.out 1).trans rfl; have hcz19_2 : w16.cell? ⟨gb347, 2, none⟩ = some (.slice none 0 0) := (blk_cell BK347.out 2).trans rfl; have hcz19_3 : w16.cell? ⟨gb347, 3, none⟩ = some (.slice none 0 0) := (blk_cell BK347.out 3).trans rfl; have hcz19_4 : w16.cell? ⟨gb347, 4, none⟩ = some (.int .i64 0) := (blk_cell BK347.out 4).trans rfl; have hfz19_0 := blk_frozen BK347.out 0; have hfz19_1 := blk_frozen BK347.out 1; have hfz19_2 := blk_frozen BK347.out 2; have hfz19_3 := blk_frozen BK347.out 3; have hfz19_4 := blk_frozen BK347.out 4; obtain ⟨Ao20, co20, eo20⟩ := Kd.R_slice HO338.out; subst eo20; obtain ⟨Ao21, co21, eo21⟩ := Kd.R_slice HO341.out; subst eo21; obtain ⟨Ao22, co22, eo22⟩ := Kd.R_slice HO344.out; subst eo22; have hcz23_0 : w16.cell? ⟨gb330, 0, none⟩ = some (.slice A0_0 l0_0.length c0_0) := (blk_cell BK330.out 0).trans rfl; have hcz23_1 : w16.cell? ⟨gb330, 1, none⟩ = some (.slice A0_1 l0_1.length c0_1) := (blk_cell BK330.out 1).trans rfl; have hcz23_2 : w16.cell? ⟨gb330, 2, none⟩ = some (.int .i64 a0_2) := (blk_cell BK330.out 2).trans rfl; have hcz23_3 : w16.cell? ⟨gb330, 3, none⟩ = some (.int .i64 a0_3) := (blk_cell BK330.out 3).trans rfl; have hcz23_4 : w16.cell? ⟨gb330, 4, none⟩ = some (.int .i64 a0_4) := (blk_cell BK330.out 4).trans rfl; have hfz23_0 := blk_frozen BK330.out 0; have hfz23_1 := blk_frozen BK330.out 1; have hfz23_2 := blk_frozen BK330.out 2; have hfz23_3 := blk_frozen BK330.out 3; have hfz23_4 := blk_frozen BK330.out 4)); try go_wp2_with (first | ((with_reducible refine gate_dst (N := 1) rfl ?_); (try (refine gate_guard (by rfl) ?_; dsimp only)); refine box_event ?hg (N := 1) ?hd (cs := #[.slice A0_0 l0_0.length c0_0, .slice A0_1 l0_1.length c0_1, .int .i64 a0_2, .int .i64 a0_3, .int .i64 a0_4]) (t := 24) ?hr ?_; (case hd => rfl); (case hg => rfl); (case hr => first | (go_simp; done) | (go_simp; rfl)); intro gb330 hg w11 hbox hb; have n0_ := Aside0.mk (below_step (qW HB.out) hb); have n1_ := Aside0.mk (hbox); have n2_ := Aside0.mk ((by rw [hg]; exact (below_size (qW HB.out)) : w.heap.size ≤ gb330)); have n3_ := Aside0.mk ((by rw [hg]; exact (below_size (qW HB.out)) : w.heap.size ≤ gb330)); clear HB; have HB := n0_; have BK330 := n1_; have GW330 := n2_; have GE330 := n3_; clear n0_ n1_ n2_ n3_ hb hbox hg; have hcz12_0 : w11.cell? ⟨gb330, 0, none⟩ = some (.slice A0_0 l0_0.length c0_0) := (blk_cell BK330.out 0).trans rfl; have hcz12_1 : w11.cell? ⟨gb330, 1, none⟩ = some (.slice A0_1 l0_1.length c0_1) := (blk_cell BK330.out 1).trans rfl; have hcz12_2 : w11.cell? ⟨gb330, 2, none⟩ = some (.int .i64 a0_2) := (blk_cell BK330.out 2).trans rfl; have hcz12_3 : w11.cell? ⟨gb330, 3, none⟩ = some (.int .i64 a0_3) := (blk_cell BK330.out 3).trans rfl; have hcz12_4 : w11.cell? ⟨gb330, 4, none⟩ = some (.int .i64 a0_4) := (blk_cell BK330.out 4).trans rfl; have hfz12_0 := blk_frozen BK330.out 0; have hfz12_1 := blk_frozen BK330.out 1; have hfz12_2 := blk_frozen BK330.out 2; have hfz12_3 := blk_frozen BK330.out 3; have hfz12_4 := blk_frozen BK330.out 4) | (go_at_call 23; (with_reducible refine (standbylaw56_small.calls k _ _ l0_0 _ _ l0_1 a0_2 a0_3 a0_4 true _ ?side1 ?side2 ?side3 ?side4 A2.out).mono ?_); (case side1 => exact qC HR0_0.out HB.out); (case side2 => exact HC0_0.out); (case side3 => exact qC HR0_1.out HB.out); (case side4 => exact HC0_1.out); rintro e w13 ⟨rfl, hb⟩; have n0_ := Aside0.mk (blk_below (qB BK330.out) hb); have n1_ := Aside0.mk (below_step (qW HB.out) hb); clear BK330 HB; have BK330 := n0_; have HB := n1_; clear n0_ n1_; (try clear hb); (try clear hb2); (try clear hk); (try clear hi); have hcz14_0 : w13.cell? ⟨gb330, 0, none⟩ = some (.slice A0_0 l0_0.length c0_0) := (blk_cell BK330.out 0).trans rfl; have hcz14_1 : w13.cell? ⟨gb330, 1, none⟩ = some (.slice A0_1 l0_1.length c0_1) := (blk_cell BK330.out 1).trans rfl; have hcz14_2 : w13.cell? ⟨gb330, 2, none⟩ = some (.int .i64 a0_2) := (blk_cell BK330.out 2).trans rfl; have hcz14_3 : w13.cell? ⟨gb330, 3, none⟩ = some (.int .i64 a0_3) := (blk_cell BK330.out 3).trans rfl; have hcz14_4 : w13.cell? ⟨gb330, 4, none⟩ = some (.int .i64 a0_4) := (blk_cell BK330.out 4).trans rfl; have hfz14_0 := blk_frozen BK330.out 0; have hfz14_1 := blk_frozen BK330.out 1; have hfz14_2 := blk_frozen BK330.out 2; have hfz14_3 := blk_frozen BK330.out 3; have hfz14_4 := blk_frozen BK330.out 4) | (go_at_call 13; (with_reducible refine (planner_Plan.calls k _ _ l0_0 _ _ l0_1 a0_2 a0_3 a0_4 t333 t336 t339 t342 t345 t346 _ ?side1 ?side2 ?side3 ?side4 A4.out).mono ?_); (case side1 => exact qC HR0_0.out HB.out); (case side2 => exact HC0_0.out); (case side3 => exact qC HR0_1.out HB.out); (case side4 => exact HC0_1.out); rintro e w15 ⟨v334, v337, v340, v343, rfl, ho0, ho1, ho2, ho3, hb⟩; have n0_ := Aside0.mk (Kd.R_lower ho0 (below_size (qW HB.out))); have n1_ := Aside0.mk (Kd.R_lower ho1 (below_size (qW HB.out))); have n2_ := Aside0.mk (Kd.R_lower ho2 (below_size (qW HB.out))); have n3_ := Aside0.mk (Kd.R_lower ho3 (below_size (qW HB.out))); have n4_ := Aside0.mk (blk_below (qB BK330.out) hb); have n5_ := Aside0.mk (below_step (qW HB.out) hb); clear BK330 HB; have HO335 := n0_; have HO338 := n1_; have HO341 := n2_; have HO344 := n3_; have BK330 := n4_; have HB := n5_; clear n0_ n1_ n2_ n3_ n4_ n5_; (try clear hb); (try clear hb2); (try clear hk); (try clear hi); (try clear ho0); (try clear ho1); (try clear ho2); (try clear ho3)) | ((with_reducible refine gate_dst (N := 3) rfl ?_); (try (refine gate_guard (by rfl) ?_; dsimp only)); refine box_event ?hg (N := 3) ?hd (cs := #[.slice none 0 0, .slice none 0 0, .slice none 0 0, .slice none 0 0, .int .i64 0]) (t := 28) ?hr ?_; (case hd => rfl); (case hg => rfl); (case hr => first | (go_simp; done) | (go_simp; rfl)); intro gb347 hg w16 hbox hb; have n0_ := Aside0.mk (Kd.R_below (qR HO335.out) hb); have n1_ := Aside0.mk (Kd.R_below (qR HO338.out) hb); have n2_ := Aside0.mk (Kd.R_below (qR HO341.out) hb); have n3_ := Aside0.mk (Kd.R_below (qR HO344.out) hb); have n4_ := Aside0.mk (blk_below (qB BK330.out) hb); have n5_ := Aside0.mk (below_step (qW HB.out) hb); have n6_ := Aside0.mk (hbox); have n7_ := Aside0.mk ((by rw [hg]; exact (below_size (qW HB.out)) : w.heap.size ≤ gb347)); have n8_ := Aside0.mk ((by rw [hg]; exact (below_size (qW HB.out)) : w.heap.size ≤ gb347)); have n9_ := Aside0.mk ((by rw [hg]; exact Nat.ne_of_lt (blk_lt (qB BK330.out)) : gb330 ≠ gb347)); have n10_ := Aside0.mk ((by rw [hg]; exact Nat.ne_of_gt (blk_lt (qB BK330.out)) : gb347 ≠ gb330)); clear HO335 HO338 HO341 HO344 BK330 HB; have HO335 := n0_; have HO338 := n1_; have HO341 := n2_; have HO344 := n3_; have BK330 := n4_; have HB := n5_; have BK347 := n6_; have GW347 := n7_; have GE347 := n8_; have NB330_347 := n9_; have NB347_330 := n10_; clear n0_ n1_ n2_ n3_ n4_ n5_ n6_ n7_ n8_ n9_ n10_ hb hbox hg; obtain ⟨Ao17, co17, eo17⟩ := Kd.R_slice HO335.out; subst eo17; have hnb18 := NB347_330.out; have hnc18 := NB330_347.out; have hcz19_0 : w16.cell? ⟨gb347, 0, none⟩ = some (.slice none 0 0) := (blk_cell BK347.out 0).trans rfl; have hcz19_1 : w16.cell? ⟨gb347, 1, none⟩ = some (.slice none 0 0) := (blk_cell BK347.out 1).trans rfl; have hcz19_2 : w16.cell? ⟨gb347, 2, none⟩ = some (.slice none 0 0) := (blk_cell BK347.out 2).trans rfl; have hcz19_3 : w16.cell? ⟨gb347, 3, none⟩ = some (.slice none 0 0) := (blk_cell BK347.out 3).trans rfl; have hcz19_4 : w16.cell? ⟨gb347, 4, none⟩ = some (.int .i64 0) := (blk_cell BK347.out 4).trans rfl; have hfz19_0 := blk_frozen BK347.out 0; have hfz19_1 := blk_frozen BK347.out 1; have hfz19_2 := blk_frozen BK347.out 2; have hfz19_3 := blk_frozen BK347.out 3; have hfz19_4 := blk_frozen BK347.out 4; obtain ⟨Ao20, co20, eo20⟩ := Kd.R_slice HO338.out; subst eo20; obtain ⟨Ao21, co21, eo21⟩ := Kd.R_slice HO341.out; subst eo21; obtain ⟨Ao22, co22, eo22⟩ := Kd.R_slice HO344.out; subst eo22; have hcz23_0 : w16.cell? ⟨gb330, 0, none⟩ = some (.slice A0_0 l0_0.length c0_0) := (blk_cell BK330.out 0).trans rfl; have hcz23_1 : w16.cell? ⟨gb330, 1, none⟩ = some (.slice A0_1 l0_1.length c0_1) := (blk_cell BK330.out 1).trans rfl; have hcz23_2 : w16.cell? ⟨gb330, 2, none⟩ = some (.int .i64 a0_2) := (blk_cell BK330.out 2).trans rfl; have hcz23_3 : w16.cell? ⟨gb330, 3, none⟩ = some (.int .i64 a0_3) := (blk_cell BK330.out 3).trans rfl; have hcz23_4 : w16.cell? ⟨gb330, 4, none⟩ = some (.int .i64 a0_4) := (blk_cell BK330.out 4).trans rfl; have hfz23_0 := blk_frozen BK330.out 0; have hfz23_1 := blk_frozen BK330.out 1; have hfz23_2 := blk_frozen BK330.out 2; have hfz23_3 := blk_frozen BK330.out 3; have hfz23_4 := blk_frozen BK330.out 4)))
  go_loopg [6, 68] k (fun kq v6 v68 w' => ∃ (x6_1 : Int) (x68_1 : Int), v6 = .int .i64 x6_1 ∧ v68 = .int .i64 x68_1 ∧ Aside0 (standbylaw56_PlannerOrders.l0 kq x6_1 (wrap64 (Int.tdiv (wrap64 ((wrap64 ((l0_0.length : Int) + a0_2)) - 1)) a0_2)) x68_1 l0_0 l0_1 a0_2 a0_3 a0_4 t333 t336 t339 t342 t345 = some r) ∧ Aside0 (kq ≤ k) ∧ Aside0 (Kd.R (Kd.int .i64) 3 w' w.heap.size (fun k_ => some k_ ≠ ((.slice Ao20 t336.length co20) : Value).ownBlock ∧ some k_ ≠ ((.slice Ao21 t339.length co21) : Value).ownBlock ∧ some k_ ≠ ((.slice Ao22 t342.length co22) : Value).ownBlock) (.slice Ao17 t333.length co17) t333) ∧ Aside0 (Kd.R (Kd.int .i64) 3 w' w.heap.size (fun k_ => some k_ ≠ ((.slice Ao17 t333.length co17) : Value).ownBlock ∧ some k_ ≠ ((.slice Ao21 t339.length co21) : Value).ownBlock ∧ some k_ ≠ ((.slice Ao22 t342.length co22) : Value).ownBlock) (.slice Ao20 t336.length co20) t336) ∧ Aside0 (Kd.R (Kd.int .i64) 3 w' w.heap.size (fun k_ => some k_ ≠ ((.slice Ao17 t333.length co17) : Value).ownBlock ∧ some k_ ≠ ((.slice Ao20 t336.length co20) : Value).ownBlock ∧ some k_ ≠ ((.slice Ao22 t342.length co22) : Value).ownBlock) (.slice Ao21 t339.length co21) t339) ∧ Aside0 (Kd.R (Kd.int .i64) 3 w' w.heap.size (fun k_ => some k_ ≠ ((.slice Ao17 t333.length co17) : Value).ownBlock ∧ some k_ ≠ ((.slice Ao20 t336.length co20) : Value).ownBlock ∧ some k_ ≠ ((.slice Ao21 t339.length co21) : Value).ownBlock) (.slice Ao22 t342.length co22) t342) ∧ Aside0 (w'.heap[gb330]? = some (.cells #[(.slice A0_0 l0_0.length c0_0), (.slice A0_1 l0_1.length c0_1), .int .i64 a0_2, .int .i64 a0_3, .int .i64 a0_4] 24 (0, 0))) ∧ Aside0 (w'.heap[gb347]? = some (.cells #[(.slice Ao17 t333.length co17), (.slice Ao20 t336.length co20), (.slice Ao21 t339.length co21), (.slice Ao22 t342.length co22), .int .i64 t345] 28 (0, 0))) ∧ Aside0 (Below w.heap.size w w'))
  case atStart => exact ⟨(0), (0), (by first | rfl | (simp; done) | (simp [*]; done)), (by first | rfl | (simp; done) | (simp [*]; done)), H', ⟨Nat.le_refl _⟩, ⟨by exact qR (Kd.R_mono (Kd.R_far (p := ⟨gb347, 4, none⟩) (Kd.R_far (p := ⟨gb347, 3, none⟩) (Kd.R_far (p := ⟨gb347, 2, none⟩) (Kd.R_far (p := ⟨gb347, 1, none⟩) (Kd.R_far (p := ⟨gb347, 0, none⟩) (Kd.R_types HO335.out BK347.out (by decide)) (fun _ hk => hk.2) (.slice Ao17 t333.length co17)) (fun _ hk => hk.2) (.slice Ao20 t336.length co20)) (fun _ hk => hk.2) (.slice Ao21 t339.length co21)) (fun _ hk => hk.2) (.slice Ao22 t342.length co22)) (fun _ hk => hk.2) (.int .i64 t345)) (fun _ hk => ⟨hk.1.1, ⟨hk.1.2.1, hk.1.2.2⟩⟩))⟩, ⟨by exact qR (Kd.R_mono (Kd.R_far (p := ⟨gb347, 4, none⟩) (Kd.R_far (p := ⟨gb347, 3, none⟩) (Kd.R_far (p := ⟨gb347, 2, none⟩) (Kd.R_far (p := ⟨gb347, 1, none⟩) (Kd.R_far (p := ⟨gb347, 0, none⟩) (Kd.R_types HO338.out BK347.out (by decide)) (fun _ hk => hk.2) (.slice Ao17 t333.length co17)) (fun _ hk => hk.2) (.slice Ao20 t336.length co20)) (fun _ hk => hk.2) (.slice Ao21 t339.length co21)) (fun _ hk => hk.2) (.slice Ao22 t342.length co22)) (fun _ hk => hk.2) (.int .i64 t345)) (fun _ hk => ⟨hk.1.1, ⟨hk.1.2.1, hk.1.2.2⟩⟩))⟩, ⟨by exact qR (Kd.R_mono (Kd.R_far (p := ⟨gb347, 4, none⟩) (Kd.R_far (p := ⟨gb347, 3, none⟩) (Kd.R_far (p := ⟨gb347, 2, none⟩) (Kd.R_far (p := ⟨gb347, 1, none⟩) (Kd.R_far (p := ⟨gb347, 0, none⟩) (Kd.R_types HO341.out BK347.out (by decide)) (fun _ hk => hk.2) (.slice Ao17 t333.length co17)) (fun _ hk => hk.2) (.slice Ao20 t336.length co20)) (fun _ hk => hk.2) (.slice Ao21 t339.length co21)) (fun _ hk => hk.2) (.slice Ao22 t342.length co22)) (fun _ hk => hk.2) (.int .i64 t345)) (fun _ hk => ⟨hk.1.1, ⟨hk.1.2.1, hk.1.2.2⟩⟩))⟩, ⟨by exact qR (Kd.R_mono (Kd.R_far (p := ⟨gb347, 4, none⟩) (Kd.R_far (p := ⟨gb347, 3, none⟩) (Kd.R_far (p := ⟨gb347, 2, none⟩) (Kd.R_far (p := ⟨gb347, 1, none⟩) (Kd.R_far (p := ⟨gb347, 0, none⟩) (Kd.R_types HO344.out BK347.out (by decide)) (fun _ hk => hk.2) (.slice Ao17 t333.length co17)) (fun _ hk => hk.2) (.slice Ao20 t336.length co20)) (fun _ hk => hk.2) (.slice Ao21 t339.length co21)) (fun _ hk => hk.2) (.slice Ao22 t342.length co22)) (fun _ hk => hk.2) (.int .i64 t345)) (fun _ hk => ⟨hk.1.1, ⟨hk.1.2.1, hk.1.2.2⟩⟩))⟩, ⟨by (with_reducible repeat (first | refine blk_drewN ?_ _ | refine blk_drew ?_ | refine blk_alloc ?_ _)); refine blk_far ?_ NB330_347.out _; (with_reducible repeat (first | refine blk_drewN ?_ _ | refine blk_drew ?_ | refine blk_alloc ?_ _)); refine blk_far ?_ NB330_347.out _; (with_reducible repeat (first | refine blk_drewN ?_ _ | refine blk_drew ?_ | refine blk_alloc ?_ _)); refine blk_far ?_ NB330_347.out _; (with_reducible repeat (first | refine blk_drewN ?_ _ | refine blk_drew ?_ | refine blk_alloc ?_ _)); refine blk_far ?_ NB330_347.out _; (with_reducible repeat (first | refine blk_drewN ?_ _ | refine blk_drew ?_ | refine blk_alloc ?_ _)); refine blk_far ?_ NB330_347.out _; exact qB BK330.out⟩, ⟨by (with_reducible repeat (first | refine blk_drewN ?_ _ | refine blk_drew ?_ | refine blk_alloc ?_ _)); refine blk_put (cs := #[.slice Ao17 t333.length co17, .slice Ao20 t336.length co20, .slice Ao21 t339.length co21, .slice Ao22 t342.length co22, .int .i64 0]) ?_ 4 _ rfl; (with_reducible repeat (first | refine blk_drewN ?_ _ | refine blk_drew ?_ | refine blk_alloc ?_ _)); refine blk_put (cs := #[.slice Ao17 t333.length co17, .slice Ao20 t336.length co20, .slice Ao21 t339.length co21, .slice none 0 0, .int .i64 0]) ?_ 3 _ rfl; (with_reducible repeat (first | refine blk_drewN ?_ _ | refine blk_drew ?_ | refine blk_alloc ?_ _)); refine blk_put (cs := #[.slice Ao17 t333.length co17, .slice Ao20 t336.length co20, .slice none 0 0, .slice none 0 0, .int .i64 0]) ?_ 2 _ rfl; (with_reducible repeat (first | refine blk_drewN ?_ _ | refine blk_drew ?_ | refine blk_alloc ?_ _)); refine blk_put (cs := #[.slice Ao17 t333.length co17, .slice none 0 0, .slice none 0 0, .slice none 0 0, .int .i64 0]) ?_ 1 _ rfl; (with_reducible repeat (first | refine blk_drewN ?_ _ | refine blk_drew ?_ | refine blk_alloc ?_ _)); refine blk_put (cs := #[.slice none 0 0, .slice none 0 0, .slice none 0 0, .slice none 0 0, .int .i64 0]) ?_ 0 _ rfl; exact qB BK347.out⟩, ⟨by repeat (first | (with_reducible first | exact HB.out | apply below_alloc | apply pw_below_drewN | apply below_drew1 | refine below_set ?_ GE330.out | refine below_set ?_ GE347.out) | exact HB.out)⟩⟩
  case round =>
   clear H'
   try clear c1
   try clear p2
   try clear c3
   try clear c5
   try clear c5b0
   try clear c5b1
   try clear c6
   try clear c6b0
   try clear c6b1
   try clear p6
   try clear c7
   try clear c7b0
   try clear c7b1
   try clear c8
   try clear c8b0
   try clear c8b1
   try clear c9
   try clear c9b0
   try clear c9b1
   try clear c10
   try clear c10b0
   try clear c10b1
   try clear c18
   try clear hcz12_0
   try clear hcz12_1
   try clear hcz12_2
   try clear hcz12_3
   try clear hcz12_4
   try clear hcz14_0
   try clear hcz14_1
   try clear hcz14_2
   try clear hcz14_3
   try clear hcz14_4
   try clear hcz19_0
   try clear hcz19_1
   try clear hcz19_2
   try clear hcz19_3
   try clear hcz19_4
   try clear hcz23_0
   try clear hcz23_1
   try clear hcz23_2
   try clear hcz23_3
   try clear hcz23_4
   try clear hfz12_0
   try clear hfz12_1
   try clear hfz12_2
   try clear hfz12_3
   try clear hfz12_4
   try clear hfz14_0
   try clear hfz14_1
   try clear hfz14_2
   try clear hfz14_3
   try clear hfz14_4
   try clear hfz19_0
   try clear hfz19_1
   try clear hfz19_2
   try clear hfz19_3
   try clear hfz19_4
   try clear hfz23_0
   try clear hfz23_1
   try clear hfz23_2
   try clear hfz23_3
   try clear hfz23_4
   obtain ⟨x6_1, x68_1, rfl, rfl, HA, HK1, HO_348000, HO_348001, HO_348002, HO_348003, BK330, BK347, HB⟩ := hrel
   cases gk with
   | zero => exact absurd HA.out (by simp [standbylaw56_PlannerOrders.l0])
   | succ k1 =>
    have H := HA.out
    clear HA
    simp only [standbylaw56_PlannerOrders.l0] at H
    by_cases c24 : x68_1 < (wrap64 (Int.tdiv (wrap64 ((wrap64 ((l0_0.length : Int) + a0_2)) - 1)) a0_2))
    case neg =>
     rw [if_neg c24] at H
     have c24b0 : decide (x68_1 < (wrap64 (Int.tdiv (wrap64 ((wrap64 ((l0_0.length : Int) + a0_2)) - 1)) a0_2))) = false := decide_eq_false c24
     clear c24
     replace H := Option.bind_eq_some_iff.mp H
     obtain ⟨t349, A630, H⟩ := H
     replace H : (some t349) = some r := H
     have A63 := Aside0.mk A630
     clear A630
     obtain rfl := Option.some.inj H
     go_wp2_with (first | (go_at_call 12; (with_reducible refine (standbylaw56_awake.calls  t349 _ A63.out).mono ?_); rintro e w64 ⟨rfl, hb⟩; have n0_ := Aside0.mk (Kd.R_below (qR HO_348000.out) hb); have n1_ := Aside0.mk (Kd.R_below (qR HO_348001.out) hb); have n2_ := Aside0.mk (Kd.R_below (qR HO_348002.out) hb); have n3_ := Aside0.mk (Kd.R_below (qR HO_348003.out) hb); have n4_ := Aside0.mk (blk_below (qB BK330.out) hb); have n5_ := Aside0.mk (blk_below (qB BK347.out) hb); have n6_ := Aside0.mk (below_step (qW HB.out) hb); clear HO_348000 HO_348001 HO_348002 HO_348003 BK330 BK347 HB; have HO_348000 := n0_; have HO_348001 := n1_; have HO_348002 := n2_; have HO_348003 := n3_; have BK330 := n4_; have BK347 := n5_; have HB := n6_; clear n0_ n1_ n2_ n3_ n4_ n5_ n6_; (try clear hb); (try clear hb2); (try clear hk); (try clear hi)))
     repeat (go_quiet (first | (go_at_call 12; (with_reducible refine (standbylaw56_awake.calls  t349 _ A63.out).mono ?_); rintro e w64 ⟨rfl, hb⟩; have n0_ := Aside0.mk (Kd.R_below (qR HO_348000.out) hb); have n1_ := Aside0.mk (Kd.R_below (qR HO_348001.out) hb); have n2_ := Aside0.mk (Kd.R_below (qR HO_348002.out) hb); have n3_ := Aside0.mk (Kd.R_below (qR HO_348003.out) hb); have n4_ := Aside0.mk (blk_below (qB BK330.out) hb); have n5_ := Aside0.mk (blk_below (qB BK347.out) hb); have n6_ := Aside0.mk (below_step (qW HB.out) hb); clear HO_348000 HO_348001 HO_348002 HO_348003 BK330 BK347 HB; have HO_348000 := n0_; have HO_348001 := n1_; have HO_348002 := n2_; have HO_348003 := n3_; have BK330 := n4_; have BK347 := n5_; have HB := n6_; clear n0_ n1_ n2_ n3_ n4_ n5_ n6_; (try clear hb); (try clear hb2); (try clear hk); (try clear hi))); try go_wp2_with (first | (go_at_call 12; (with_reducible refine (standbylaw56_awake.calls  t349 _ A63.out).mono ?_); rintro e w64 ⟨rfl, hb⟩; have n0_ := Aside0.mk (Kd.R_below (qR HO_348000.out) hb); have n1_ := Aside0.mk (Kd.R_below (qR HO_348001.out) hb); have n2_ := Aside0.mk (Kd.R_below (qR HO_348002.out) hb); have n3_ := Aside0.mk (Kd.R_below (qR HO_348003.out) hb); have n4_ := Aside0.mk (blk_below (qB BK330.out) hb); have n5_ := Aside0.mk (blk_below (qB BK347.out) hb); have n6_ := Aside0.mk (below_step (qW HB.out) hb); clear HO_348000 HO_348001 HO_348002 HO_348003 BK330 BK347 HB; have HO_348000 := n0_; have HO_348001 := n1_; have HO_348002 := n2_; have HO_348003 := n3_; have BK330 := n4_; have BK347 := n5_; have HB := n6_; clear n0_ n1_ n2_ n3_ n4_ n5_ n6_; (try clear hb); (try clear hb2); (try clear hk); (try clear hi))))
     go_ret
     exact ⟨by first | rfl | (simp [errW_none, errW_some] <;> rfl) | (simp [*, errW_none, errW_some] <;> rfl), by repeat (first | (with_reducible first | exact HB.out | apply below_alloc | apply pw_below_drewN | apply below_drew1 | refine below_set ?_ GE330.out | refine below_set ?_ GE347.out) | exact HB.out)⟩
    rw [if_pos c24] at H
    have c24b0 : decide (x68_1 < (wrap64 (Int.tdiv (wrap64 ((wrap64 ((l0_0.length : Int) + a0_2)) - 1)) a0_2))) = true := decide_eq_true c24
    clear c24
    have H' := Aside0.mk H
    clear H
    have hnb25 := NB330_347.out
    have hnc25 := NB347_330.out
    have hcz26_0 : wr.cell? ⟨gb330, 0, none⟩ = some (.slice A0_0 l0_0.length c0_0) := (blk_cell BK330.out 0).trans rfl
    have hcz26_1 : wr.cell? ⟨gb330, 1, none⟩ = some (.slice A0_1 l0_1.length c0_1) := (blk_cell BK330.out 1).trans rfl
    have hcz26_2 : wr.cell? ⟨gb330, 2, none⟩ = some (.int .i64 a0_2) := (blk_cell BK330.out 2).trans rfl
    have hcz26_3 : wr.cell? ⟨gb330, 3, none⟩ = some (.int .i64 a0_3) := (blk_cell BK330.out 3).trans rfl
    have hcz26_4 : wr.cell? ⟨gb330, 4, none⟩ = some (.int .i64 a0_4) := (blk_cell BK330.out 4).trans rfl
    have hfz26_0 := blk_frozen BK330.out 0
    have hfz26_1 := blk_frozen BK330.out 1
    have hfz26_2 := blk_frozen BK330.out 2
    have hfz26_3 := blk_frozen BK330.out 3
    have hfz26_4 := blk_frozen BK330.out 4
    go_wp2
    repeat (go_quiet (fail); try go_wp2)
    go_loopg [8, 11] k1 (fun kq v8 v11 w' => ∃ (x8_2 : Int) (x11_2 : Int), v8 = .int .i64 x8_2 ∧ v11 = .int .i64 x11_2 ∧ Aside0 (standbylaw56_PlannerOrders.l1 kq x6_1 x68_1 x8_2 0 (-1) x11_2 (wrap64 (Int.tdiv (wrap64 ((wrap64 ((l0_0.length : Int) + a0_2)) - 1)) a0_2)) x68_1 l0_0 l0_1 a0_2 a0_3 a0_4 t333 t336 t339 t342 t345 = some r) ∧ Aside0 (kq ≤ k1) ∧ Aside0 (Kd.R (Kd.int .i64) 3 w' w.heap.size (fun k_ => some k_ ≠ ((.slice Ao20 t336.length co20) : Value).ownBlock ∧ some k_ ≠ ((.slice Ao21 t339.length co21) : Value).ownBlock ∧ some k_ ≠ ((.slice Ao22 t342.length co22) : Value).ownBlock) (.slice Ao17 t333.length co17) t333) ∧ Aside0 (Kd.R (Kd.int .i64) 3 w' w.heap.size (fun k_ => some k_ ≠ ((.slice Ao17 t333.length co17) : Value).ownBlock ∧ some k_ ≠ ((.slice Ao21 t339.length co21) : Value).ownBlock ∧ some k_ ≠ ((.slice Ao22 t342.length co22) : Value).ownBlock) (.slice Ao20 t336.length co20) t336) ∧ Aside0 (Kd.R (Kd.int .i64) 3 w' w.heap.size (fun k_ => some k_ ≠ ((.slice Ao17 t333.length co17) : Value).ownBlock ∧ some k_ ≠ ((.slice Ao20 t336.length co20) : Value).ownBlock ∧ some k_ ≠ ((.slice Ao22 t342.length co22) : Value).ownBlock) (.slice Ao21 t339.length co21) t339) ∧ Aside0 (Kd.R (Kd.int .i64) 3 w' w.heap.size (fun k_ => some k_ ≠ ((.slice Ao17 t333.length co17) : Value).ownBlock ∧ some k_ ≠ ((.slice Ao20 t336.length co20) : Value).ownBlock ∧ some k_ ≠ ((.slice Ao21 t339.length co21) : Value).ownBlock) (.slice Ao22 t342.length co22) t342) ∧ Aside0 (w'.heap[gb330]? = some (.cells #[(.slice A0_0 l0_0.length c0_0), (.slice A0_1 l0_1.length c0_1), .int .i64 a0_2, .int .i64 a0_3, .int .i64 a0_4] 24 (0, 0))) ∧ Aside0 (w'.heap[gb347]? = some (.cells #[(.slice Ao17 t333.length co17), (.slice Ao20 t336.length co20), (.slice Ao21 t339.length co21), (.slice Ao22 t342.length co22), .int .i64 t345] 28 (0, 0))) ∧ Aside0 (Below w.heap.size w w'))
    case atStart => exact ⟨(0), (wrap64 (x68_1 * a0_2)), (by first | rfl | (simp; done) | (simp [*]; done)), (by first | rfl | (simp; done) | (simp [*]; done)), H', ⟨Nat.le_refl _⟩, ⟨by exact qR HO_348000.out⟩, ⟨by exact qR HO_348001.out⟩, ⟨by exact qR HO_348002.out⟩, ⟨by exact qR HO_348003.out⟩, ⟨by exact qB BK330.out⟩, ⟨by exact qB BK347.out⟩, ⟨by repeat (first | (with_reducible first | exact HB.out | apply below_alloc | apply pw_below_drewN | apply below_drew1 | refine below_set ?_ GE330.out | refine below_set ?_ GE347.out) | exact HB.out)⟩⟩
    case round =>
     clear H'
     try clear c1
     try clear c2
     try clear p2
     try clear c3
     try clear c5
     try clear c5b0
     try clear c5b1
     try clear c6
     try clear c6b0
     try clear c6b1
     try clear p6
     try clear c7
     try clear c7b0
     try clear c7b1
     try clear c8
     try clear c8b0
     try clear c8b1
     try clear c9
     try clear c9b0
     try clear c9b1
     try clear c10
     try clear c10b0
     try clear c10b1
     try clear c18
     try clear c24
     try clear c24b0
     try clear c25
     try clear hcz12_0
     try clear hcz12_1
     try clear hcz12_2
     try clear hcz12_3
     try clear hcz12_4
     try clear hcz14_0
     try clear hcz14_1
     try clear hcz14_2
     try clear hcz14_3
     try clear hcz14_4
     try clear hcz19_0
     try clear hcz19_1
     try clear hcz19_2
     try clear hcz19_3
     try clear hcz19_4
     try clear hcz23_0
     try clear hcz23_1
     try clear hcz23_2
     try clear hcz23_3
     try clear hcz23_4
     try clear hcz26_0
     try clear hcz26_1
     try clear hcz26_2
     try clear hcz26_3
     try clear hcz26_4
     try clear hfz12_0
     try clear hfz12_1
     try clear hfz12_2
     try clear hfz12_3
     try clear hfz12_4
     try clear hfz14_0
     try clear hfz14_1
     try clear hfz14_2
     try clear hfz14_3
     try clear hfz14_4
     try clear hfz19_0
     try clear hfz19_1
     try clear hfz19_2
     try clear hfz19_3
     try clear hfz19_4
     try clear hfz23_0
     try clear hfz23_1
     try clear hfz23_2
     try clear hfz23_3
     try clear hfz23_4
     try clear hfz26_0
     try clear hfz26_1
     try clear hfz26_2
     try clear hfz26_3
     try clear hfz26_4
     try clear p2
     try clear p6
     obtain ⟨x8_2, x11_2, rfl, rfl, HA, HK2, HO_348000, HO_348001, HO_348002, HO_348003, BK330, BK347, HB⟩ := hrel
     cases gk with
     | zero => exact absurd HA.out (by simp [standbylaw56_PlannerOrders.l1])
     | succ k2 =>
      have H := HA.out
      clear HA
      simp only [standbylaw56_PlannerOrders.l1] at H
      obtain ⟨ji27, hji27⟩ : ∃ j_ : Int, (mn (wrap64 ((wrap64 (x68_1 + 1)) * a0_2)) (l0_0.length : Int)) = j_ := ⟨_, rfl⟩
      replace H : (if x11_2 < (ji27) then (if 0 ≤ x11_2 then (if x11_2 < (l0_0.length : Int) then (standbylaw56_PlannerOrders.l1 k2 x6_1 x68_1 (wrap64 (x8_2 + (rd l0_0 x11_2))) 0 (-1) (wrap64 (x11_2 + 1)) (wrap64 (Int.tdiv (wrap64 ((wrap64 ((l0_0.length : Int) + a0_2)) - 1)) a0_2)) x68_1 l0_0 l0_1 a0_2 a0_3 a0_4 t333 t336 t339 t342 t345) else (none)) else (none)) else (if 0 ≤ x68_1 then (if x68_1 < (t333.length : Int) then (if (rd t333 x68_1) = (wrap64 ((wrap64 (x68_1 + 1)) * a0_2)) then (if x68_1 < (t336.length : Int) then (if (rd t336 x68_1) = (mx (rd t333 x68_1) x6_1) then (if x68_1 < (t339.length : Int) then (if (rd t339 x68_1) < (rd t336 x68_1) then (none) else (if (wrap64 ((rd t339 x68_1) - (rd t336 x68_1))) > 2000 then (none) else (if x68_1 < (t342.length : Int) then (if (rd t342 x68_1) = (wrap64 ((wrap64 ((rd t339 x68_1) + a0_3)) + a0_4)) then (standbylaw56_PlannerOrders.l2 k2 x68_1 x8_2 0 (-1) (rd t336 x68_1) (wrap64 (Int.tdiv (wrap64 ((wrap64 ((l0_0.length : Int) + a0_2)) - 1)) a0_2)) x68_1 l0_0 l0_1 a0_2 a0_3 a0_4 t333 t336 t339 t342 t345) else (none)) else (none)))) else (none)) else (none)) else (none)) else (none)) else (none)) else (none))) = some r := by first | (rw [hji27] at H; exact H) | (simp only [hji27] at H ⊢; exact H)
      have hji27_ : (if (l0_0.length : Int) < (wrap64 ((wrap64 (x68_1 + 1)) * a0_2)) then (l0_0.length : Int) else (wrap64 ((wrap64 (x68_1 + 1)) * a0_2))) = ji27 := hji27
      by_cases c28 : x11_2 < (ji27)
      ·rw [if_pos c28] at H
       have c28b0 : decide (x11_2 < (ji27)) = true := decide_eq_true c28
       clear c28
       by_cases c29 : 0 ≤ x11_2
       case neg =>
        rw [if_neg c29] at H
        exact absurd H (by simp)
       rw [if_pos c29] at H
       have c29b0 : decide (0 ≤ x11_2) = true := decide_eq_true c29
       clear c29
       by_cases c30 : x11_2 < (l0_0.length : Int)
       case neg =>
        rw [if_neg c30] at H
        exact absurd H (by simp)
       rw [if_pos c30] at H
       have c30b0 : decide (x11_2 < (l0_0.length : Int)) = true := decide_eq_true c30
       clear c30
       have H' := Aside0.mk H
       clear H
       have hnb31 := NB330_347.out
       have hnc31 := NB347_330.out
       have hcz32_0 : wr.cell? ⟨gb330, 0, none⟩ = some (.slice A0_0 l0_0.length c0_0) := (blk_cell BK330.out 0).trans rfl
       have hcz32_1 : wr.cell? ⟨gb330, 1, none⟩ = some (.slice A0_1 l0_1.length c0_1) := (blk_cell BK330.out 1).trans rfl
       have hcz32_2 : wr.cell? ⟨gb330, 2, none⟩ = some (.int .i64 a0_2) := (blk_cell BK330.out 2).trans rfl
       have hcz32_3 : wr.cell? ⟨gb330, 3, none⟩ = some (.int .i64 a0_3) := (blk_cell BK330.out 3).trans rfl
       have hcz32_4 : wr.cell? ⟨gb330, 4, none⟩ = some (.int .i64 a0_4) := (blk_cell BK330.out 4).trans rfl
       have hfz32_0 := blk_frozen BK330.out 0
       have hfz32_1 := blk_frozen BK330.out 1
       have hfz32_2 := blk_frozen BK330.out 2
       have hfz32_3 := blk_frozen BK330.out 3
       have hfz32_4 := blk_frozen BK330.out 4
       have p350 : 0 ≤ (x11_2 : Int) := of_decide_eq_true (by first | (with_reducible assumption) | assumption)
       have q350 : x11_2 < (l0_0.length : Int) := of_decide_eq_true (by first | (with_reducible assumption) | assumption)
       obtain ⟨ad350, e350, hx350_0⟩ := Kd.at_int HR0_0.out x11_2 p350 q350
       cases e350
       replace hx350_0 := (HB.out.cell (World.block_lt_of_cell? w _ hx350_0)).trans hx350_0
       replace p350 := eq_true p350
       replace q350 := eq_true q350
       go_wp2
       repeat (go_quiet (fail); try go_wp2)
       go_roundg k2
       case measure => have := HK1.out; have := HK2.out; omega
       case rel => exact ⟨(wrap64 (x8_2 + (rd l0_0 x11_2))), (wrap64 (x11_2 + 1)), (by first | rfl | (simp; done) | (simp [*]; done)), (by first | rfl | (simp; done) | (simp [*]; done)), H', ⟨by have := HK1.out; have := HK2.out; omega⟩, ⟨by exact qR HO_348000.out⟩, ⟨by exact qR HO_348001.out⟩, ⟨by exact qR HO_348002.out⟩, ⟨by exact qR HO_348003.out⟩, ⟨by exact qB BK330.out⟩, ⟨by exact qB BK347.out⟩, ⟨by repeat (first | (with_reducible first | exact HB.out | apply below_alloc | apply pw_below_drewN | apply below_drew1 | refine below_set ?_ GE330.out | refine below_set ?_ GE347.out) | exact HB.out)⟩⟩
      ·rw [if_neg c28] at H
       have c28b0 : decide (x11_2 < (ji27)) = false := decide_eq_false c28
       clear c28
       by_cases c33 : 0 ≤ x68_1
       case neg =>
        rw [if_neg c33] at H
        exact absurd H (by simp)
       rw [if_pos c33] at H
       have c33b0 : decide (0 ≤ x68_1) = true := decide_eq_true c33
       clear c33
       by_cases c34 : x68_1 < (t333.length : Int)
       case neg =>
        rw [if_neg c34] at H
        exact absurd H (by simp)
       rw [if_pos c34] at H
       have c34b0 : decide (x68_1 < (t333.length : Int)) = true := decide_eq_true c34
       clear c34
       by_cases c35 : (rd t333 x68_1) = (wrap64 ((wrap64 (x68_1 + 1)) * a0_2))
       case neg =>
        rw [if_neg c35] at H
        exact absurd H (by simp)
       rw [if_pos c35] at H
       have c35b0 : ((rd t333 x68_1) == (wrap64 ((wrap64 (x68_1 + 1)) * a0_2))) = true := beq_iff_eq.mpr c35
       have c35b1 : ((rd t333 x68_1) != (wrap64 ((wrap64 (x68_1 + 1)) * a0_2))) = false := bne_eq_false_iff_eq.mpr c35
       clear c35
       by_cases c36 : x68_1 < (t336.length : Int)
       case neg =>
        rw [if_neg c36] at H
        exact absurd H (by simp)
       rw [if_pos c36] at H
       have c36b0 : decide (x68_1 < (t336.length : Int)) = true := decide_eq_true c36
       clear c36
       obtain ⟨ji37, hji37⟩ : ∃ j_ : Int, (mx (rd t333 x68_1) x6_1) = j_ := ⟨_, rfl⟩
       replace H : (if (rd t336 x68_1) = (ji37) then (if x68_1 < (t339.length : Int) then (if (rd t339 x68_1) < (rd t336 x68_1) then (none) else (if (wrap64 ((rd t339 x68_1) - (rd t336 x68_1))) > 2000 then (none) else (if x68_1 < (t342.length : Int) then (if (rd t342 x68_1) = (wrap64 ((wrap64 ((rd t339 x68_1) + a0_3)) + a0_4)) then (standbylaw56_PlannerOrders.l2 k2 x68_1 x8_2 0 (-1) (rd t336 x68_1) (wrap64 (Int.tdiv (wrap64 ((wrap64 ((l0_0.length : Int) + a0_2)) - 1)) a0_2)) x68_1 l0_0 l0_1 a0_2 a0_3 a0_4 t333 t336 t339 t342 t345) else (none)) else (none)))) else (none)) else (none)) = some r := by first | (rw [hji37] at H; exact H) | (simp only [hji37] at H ⊢; exact H)
       have hji37_ : (if (rd t333 x68_1) < x6_1 then x6_1 else (rd t333 x68_1)) = ji37 := hji37
       by_cases c38 : (rd t336 x68_1) = (ji37)
       case neg =>
        rw [if_neg c38] at H
        exact absurd H (by simp)
       rw [if_pos c38] at H
       have c38b0 : ((rd t336 x68_1) == (ji37)) = true := beq_iff_eq.mpr c38
       have c38b1 : ((rd t336 x68_1) != (ji37)) = false := bne_eq_false_iff_eq.mpr c38
       clear c38
       by_cases c39 : x68_1 < (t339.length : Int)
       case neg =>
        rw [if_neg c39] at H
        exact absurd H (by simp)
       rw [if_pos c39] at H
       have c39b0 : decide (x68_1 < (t339.length : Int)) = true := decide_eq_true c39
       clear c39
       by_cases c40 : (rd t339 x68_1) < (rd t336 x68_1)
       ·rw [if_pos c40] at H
        exact absurd H (by simp)
       ·rw [if_neg c40] at H
        have c40b0 : decide ((rd t339 x68_1) < (rd t336 x68_1)) = false := decide_eq_false c40
        clear c40
        by_cases c41 : (wrap64 ((rd t339 x68_1) - (rd t336 x68_1))) > 2000
        ·rw [if_pos c41] at H
         exact absurd H (by simp)
        ·rw [if_neg c41] at H
         have c41b0 : decide (2000 < (wrap64 ((rd t339 x68_1) - (rd t336 x68_1)))) = false := decide_eq_false c41
         clear c41
         by_cases c42 : x68_1 < (t342.length : Int)
         case neg =>
          rw [if_neg c42] at H
          exact absurd H (by simp)
         rw [if_pos c42] at H
         have c42b0 : decide (x68_1 < (t342.length : Int)) = true := decide_eq_true c42
         clear c42
         by_cases c43 : (rd t342 x68_1) = (wrap64 ((wrap64 ((rd t339 x68_1) + a0_3)) + a0_4))
         case neg =>
          rw [if_neg c43] at H
          exact absurd H (by simp)
         rw [if_pos c43] at H
         have c43b0 : ((rd t342 x68_1) == (wrap64 ((wrap64 ((rd t339 x68_1) + a0_3)) + a0_4))) = true := beq_iff_eq.mpr c43
         have c43b1 : ((rd t342 x68_1) != (wrap64 ((wrap64 ((rd t339 x68_1) + a0_3)) + a0_4))) = false := bne_eq_false_iff_eq.mpr c43
         clear c43
         have H' := Aside0.mk H
         clear H
         have hnb44 := NB330_347.out
         have hnc44 := NB347_330.out
         have hcz45_0 : wr.cell? ⟨gb330, 0, none⟩ = some (.slice A0_0 l0_0.length c0_0) := (blk_cell BK330.out 0).trans rfl
         have hcz45_1 : wr.cell? ⟨gb330, 1, none⟩ = some (.slice A0_1 l0_1.length c0_1) := (blk_cell BK330.out 1).trans rfl
         have hcz45_2 : wr.cell? ⟨gb330, 2, none⟩ = some (.int .i64 a0_2) := (blk_cell BK330.out 2).trans rfl
         have hcz45_3 : wr.cell? ⟨gb330, 3, none⟩ = some (.int .i64 a0_3) := (blk_cell BK330.out 3).trans rfl
         have hcz45_4 : wr.cell? ⟨gb330, 4, none⟩ = some (.int .i64 a0_4) := (blk_cell BK330.out 4).trans rfl
         have hfz45_0 := blk_frozen BK330.out 0
         have hfz45_1 := blk_frozen BK330.out 1
         have hfz45_2 := blk_frozen BK330.out 2
         have hfz45_3 := blk_frozen BK330.out 3
         have hfz45_4 := blk_frozen BK330.out 4
         have hcz46_0 : wr.cell? ⟨gb347, 0, none⟩ = some (.slice Ao17 t333.length co17) := (blk_cell BK347.out 0).trans rfl
         have hcz46_1 : wr.cell? ⟨gb347, 1, none⟩ = some (.slice Ao20 t336.length co20) := (blk_cell BK347.out 1).trans rfl
         have hcz46_2 : wr.cell? ⟨gb347, 2, none⟩ = some (.slice Ao21 t339.length co21) := (blk_cell BK347.out 2).trans rfl
         have hcz46_3 : wr.cell? ⟨gb347, 3, none⟩ = some (.slice Ao22 t342.length co22) := (blk_cell BK347.out 3).trans rfl
         have hcz46_4 : wr.cell? ⟨gb347, 4, none⟩ = some (.int .i64 t345) := (blk_cell BK347.out 4).trans rfl
         have hfz46_0 := blk_frozen BK347.out 0
         have hfz46_1 := blk_frozen BK347.out 1
         have hfz46_2 := blk_frozen BK347.out 2
         have hfz46_3 := blk_frozen BK347.out 3
         have hfz46_4 := blk_frozen BK347.out 4
         have p351 : 0 ≤ (x68_1 : Int) := of_decide_eq_true (by first | (with_reducible assumption) | assumption)
         have q351 : x68_1 < (t333.length : Int) := of_decide_eq_true (by first | (with_reducible assumption) | assumption)
         obtain ⟨ad351, e351, hx351_0⟩ := Kd.at_int (Kd.R_reads' HO_348000.out).2.2 x68_1 p351 q351
         cases e351
         replace p351 := eq_true p351
         replace q351 := eq_true q351
         have p352 : 0 ≤ (x68_1 : Int) := of_decide_eq_true (by first | (with_reducible assumption) | assumption)
         have q352 : x68_1 < (t336.length : Int) := of_decide_eq_true (by first | (with_reducible assumption) | assumption)
         obtain ⟨ad352, e352, hx352_0⟩ := Kd.at_int (Kd.R_reads' HO_348001.out).2.2 x68_1 p352 q352
         cases e352
         replace p352 := eq_true p352
         replace q352 := eq_true q352
         have p353 : 0 ≤ (x68_1 : Int) := of_decide_eq_true (by first | (with_reducible assumption) | assumption)
         have q353 : x68_1 < (t333.length : Int) := of_decide_eq_true (by first | (with_reducible assumption) | assumption)
         obtain ⟨ad353, e353, hx353_0⟩ := Kd.at_int (Kd.R_reads' HO_348000.out).2.2 x68_1 p353 q353
         obtain rfl : ad351 = ad353 := (by injection e353)
         replace p353 := eq_true p353
         replace q353 := eq_true q353
         have p354 : 0 ≤ (x68_1 : Int) := of_decide_eq_true (by first | (with_reducible assumption) | assumption)
         have q354 : x68_1 < (t339.length : Int) := of_decide_eq_true (by first | (with_reducible assumption) | assumption)
         obtain ⟨ad354, e354, hx354_0⟩ := Kd.at_int (Kd.R_reads' HO_348002.out).2.2 x68_1 p354 q354
         cases e354
         replace p354 := eq_true p354
         replace q354 := eq_true q354
         have p355 : 0 ≤ (x68_1 : Int) := of_decide_eq_true (by first | (with_reducible assumption) | assumption)
         have q355 : x68_1 < (t336.length : Int) := of_decide_eq_true (by first | (with_reducible assumption) | assumption)
         obtain ⟨ad355, e355, hx355_0⟩ := Kd.at_int (Kd.R_reads' HO_348001.out).2.2 x68_1 p355 q355
         obtain rfl : ad352 = ad355 := (by injection e355)
         replace p355 := eq_true p355
         replace q355 := eq_true q355
         have p356 : 0 ≤ (x68_1 : Int) := of_decide_eq_true (by first | (with_reducible assumption) | assumption)
         have q356 : x68_1 < (t339.length : Int) := of_decide_eq_true (by first | (with_reducible assumption) | assumption)
         obtain ⟨ad356, e356, hx356_0⟩ := Kd.at_int (Kd.R_reads' HO_348002.out).2.2 x68_1 p356 q356
         obtain rfl : ad354 = ad356 := (by injection e356)
         replace p356 := eq_true p356
         replace q356 := eq_true q356
         have p357 : 0 ≤ (x68_1 : Int) := of_decide_eq_true (by first | (with_reducible assumption) | assumption)
         have q357 : x68_1 < (t336.length : Int) := of_decide_eq_true (by first | (with_reducible assumption) | assumption)
         obtain ⟨ad357, e357, hx357_0⟩ := Kd.at_int (Kd.R_reads' HO_348001.out).2.2 x68_1 p357 q357
         obtain rfl : ad352 = ad357 := (by injection e357)
         replace p357 := eq_true p357
         replace q357 := eq_true q357
         have p358 : 0 ≤ (x68_1 : Int) := of_decide_eq_true (by first | (with_reducible assumption) | assumption)
         have q358 : x68_1 < (t342.length : Int) := of_decide_eq_true (by first | (with_reducible assumption) | assumption)
         obtain ⟨ad358, e358, hx358_0⟩ := Kd.at_int (Kd.R_reads' HO_348003.out).2.2 x68_1 p358 q358
         cases e358
         replace p358 := eq_true p358
         replace q358 := eq_true q358
         have p359 : 0 ≤ (x68_1 : Int) := of_decide_eq_true (by first | (with_reducible assumption) | assumption)
         have q359 : x68_1 < (t339.length : Int) := of_decide_eq_true (by first | (with_reducible assumption) | assumption)
         obtain ⟨ad359, e359, hx359_0⟩ := Kd.at_int (Kd.R_reads' HO_348002.out).2.2 x68_1 p359 q359
         obtain rfl : ad354 = ad359 := (by injection e359)
         replace p359 := eq_true p359
         replace q359 := eq_true q359
         have p360 : 0 ≤ (x68_1 : Int) := of_decide_eq_true (by first | (with_reducible assumption) | assumption)
         have q360 : x68_1 < (t336.length : Int) := of_decide_eq_true (by first | (with_reducible assumption) | assumption)
         obtain ⟨ad360, e360, hx360_0⟩ := Kd.at_int (Kd.R_reads' HO_348001.out).2.2 x68_1 p360 q360
         obtain rfl : ad352 = ad360 := (by injection e360)
         replace p360 := eq_true p360
         replace q360 := eq_true q360
         go_wp2
         repeat (go_quiet (fail); try go_wp2)
         go_loopg [9, 10, 12] k2 (fun kq v9 v10 v12 w' => ∃ (x9_3 : Int) (x10_3 : Int) (x12_3 : Int), v9 = .int .i64 x9_3 ∧ v10 = .int .i64 x10_3 ∧ v12 = .int .i64 x12_3 ∧ Aside0 (standbylaw56_PlannerOrders.l2 kq x68_1 x8_2 x9_3 x10_3 x12_3 (wrap64 (Int.tdiv (wrap64 ((wrap64 ((l0_0.length : Int) + a0_2)) - 1)) a0_2)) x68_1 l0_0 l0_1 a0_2 a0_3 a0_4 t333 t336 t339 t342 t345 = some r) ∧ Aside0 (kq ≤ k2) ∧ Aside0 (Kd.R (Kd.int .i64) 3 w' w.heap.size (fun k_ => some k_ ≠ ((.slice (some ad352) t336.length co20) : Value).ownBlock ∧ some k_ ≠ ((.slice (some ad354) t339.length co21) : Value).ownBlock ∧ some k_ ≠ ((.slice (some ad358) t342.length co22) : Value).ownBlock) (.slice (some ad351) t333.length co17) t333) ∧ Aside0 (Kd.R (Kd.int .i64) 3 w' w.heap.size (fun k_ => some k_ ≠ ((.slice (some ad351) t333.length co17) : Value).ownBlock ∧ some k_ ≠ ((.slice (some ad354) t339.length co21) : Value).ownBlock ∧ some k_ ≠ ((.slice (some ad358) t342.length co22) : Value).ownBlock) (.slice (some ad352) t336.length co20) t336) ∧ Aside0 (Kd.R (Kd.int .i64) 3 w' w.heap.size (fun k_ => some k_ ≠ ((.slice (some ad351) t333.length co17) : Value).ownBlock ∧ some k_ ≠ ((.slice (some ad352) t336.length co20) : Value).ownBlock ∧ some k_ ≠ ((.slice (some ad358) t342.length co22) : Value).ownBlock) (.slice (some ad354) t339.length co21) t339) ∧ Aside0 (Kd.R (Kd.int .i64) 3 w' w.heap.size (fun k_ => some k_ ≠ ((.slice (some ad351) t333.length co17) : Value).ownBlock ∧ some k_ ≠ ((.slice (some ad352) t336.length co20) : Value).ownBlock ∧ some k_ ≠ ((.slice (some ad354) t339.length co21) : Value).ownBlock) (.slice (some ad358) t342.length co22) t342) ∧ Aside0 (w'.heap[gb330]? = some (.cells #[(.slice A0_0 l0_0.length c0_0), (.slice A0_1 l0_1.length c0_1), .int .i64 a0_2, .int .i64 a0_3, .int .i64 a0_4] 24 (0, 0))) ∧ Aside0 (w'.heap[gb347]? = some (.cells #[(.slice (some ad351) t333.length co17), (.slice (some ad352) t336.length co20), (.slice (some ad354) t339.length co21), (.slice (some ad358) t342.length co22), .int .i64 t345] 28 (0, 0))) ∧ Aside0 (Below w.heap.size w w'))
         case atStart => exact ⟨(0), ((-1)), (rd t336 x68_1), (by first | rfl | (simp; done) | (simp [*]; done)), (by first | rfl | (simp; done) | (simp [*]; done)), (by first | rfl | (simp; done) | (simp [*]; done)), H', ⟨Nat.le_refl _⟩, ⟨by exact qR HO_348000.out⟩, ⟨by exact qR HO_348001.out⟩, ⟨by exact qR HO_348002.out⟩, ⟨by exact qR HO_348003.out⟩, ⟨by exact qB BK330.out⟩, ⟨by exact qB BK347.out⟩, ⟨by repeat (first | (with_reducible first | exact HB.out | apply below_alloc | apply pw_below_drewN | apply below_drew1 | refine below_set ?_ GE330.out | refine below_set ?_ GE347.out) | exact HB.out)⟩⟩
         case round =>
          clear H'
          try clear c1
          try clear c2
          try clear p2
          try clear c3
          try clear p3
          try clear q3
          try clear hx3
          try clear c4
          try clear c5
          try clear c5b0
          try clear c5b1
          try clear c6
          try clear c6b0
          try clear c6b1
          try clear p6
          try clear c7
          try clear c7b0
          try clear c7b1
          try clear c8
          try clear c8b0
          try clear c8b1
          try clear c9
          try clear c9b0
          try clear c9b1
          try clear c10
          try clear c10b0
          try clear c10b1
          try clear c18
          try clear c24
          try clear c24b0
          try clear c25
          try clear c28
          try clear c28b0
          try clear c29
          try clear c29b0
          try clear c30
          try clear c30b0
          try clear c31
          try clear c33
          try clear c33b0
          try clear c34
          try clear c34b0
          try clear c35
          try clear c35b0
          try clear c35b1
          try clear p35
          try clear q35
          try clear hx35
          try clear c36
          try clear c36b0
          try clear p36
          try clear q36
          try clear hx36
          try clear c38
          try clear c38b0
          try clear c38b1
          try clear c39
          try clear c39b0
          try clear c40
          try clear c40b0
          try clear c41
          try clear c41b0
          try clear c42
          try clear c42b0
          try clear c43
          try clear c43b0
          try clear c43b1
          try clear c44
          try clear hcz12_0
          try clear hcz12_1
          try clear hcz12_2
          try clear hcz12_3
          try clear hcz12_4
          try clear hcz14_0
          try clear hcz14_1
          try clear hcz14_2
          try clear hcz14_3
          try clear hcz14_4
          try clear hcz19_0
          try clear hcz19_1
          try clear hcz19_2
          try clear hcz19_3
          try clear hcz19_4
          try clear hcz23_0
          try clear hcz23_1
          try clear hcz23_2
          try clear hcz23_3
          try clear hcz23_4
          try clear hcz26_0
          try clear hcz26_1
          try clear hcz26_2
          try clear hcz26_3
          try clear hcz26_4
          try clear hcz32_0
          try clear hcz32_1
          try clear hcz32_2
          try clear hcz32_3
          try clear hcz32_4
          try clear hcz45_0
          try clear hcz45_1
          try clear hcz45_2
          try clear hcz45_3
          try clear hcz45_4
          try clear hcz46_0
          try clear hcz46_1
          try clear hcz46_2
          try clear hcz46_3
          try clear hcz46_4
          try clear hfz12_0
          try clear hfz12_1
          try clear hfz12_2
          try clear hfz12_3
          try clear hfz12_4
          try clear hfz14_0
          try clear hfz14_1
          try clear hfz14_2
          try clear hfz14_3
          try clear hfz14_4
          try clear hfz19_0
          try clear hfz19_1
          try clear hfz19_2
          try clear hfz19_3
          try clear hfz19_4
          try clear hfz23_0
          try clear hfz23_1
          try clear hfz23_2
          try clear hfz23_3
          try clear hfz23_4
          try clear hfz26_0
          try clear hfz26_1
          try clear hfz26_2
          try clear hfz26_3
          try clear hfz26_4
          try clear hfz32_0
          try clear hfz32_1
          try clear hfz32_2
          try clear hfz32_3
          try clear hfz32_4
          try clear hfz45_0
          try clear hfz45_1
          try clear hfz45_2
          try clear hfz45_3
          try clear hfz45_4
          try clear hfz46_0
          try clear hfz46_1
          try clear hfz46_2
          try clear hfz46_3
          try clear hfz46_4
          try clear hx350_0
          try clear hx351_0
          try clear hx352_0
          try clear hx353_0
          try clear hx354_0
          try clear hx355_0
          try clear hx356_0
          try clear hx357_0
          try clear hx358_0
          try clear hx359_0
          try clear hx360_0
          try clear p2
          try clear p350
          try clear p351
          try clear p352
          try clear p353
          try clear p354
          try clear p355
          try clear p356
          try clear p357
          try clear p358
          try clear p359
          try clear p360
          try clear p6
          try clear q350
          try clear q351
          try clear q352
          try clear q353
          try clear q354
          try clear q355
          try clear q356
          try clear q357
          try clear q358
          try clear q359
          try clear q360
          obtain ⟨x9_3, x10_3, x12_3, rfl, rfl, rfl, HA, HK3, HO_348000, HO_348001, HO_348002, HO_348003, BK330, BK347, HB⟩ := hrel
          cases gk with
          | zero => exact absurd HA.out (by simp [standbylaw56_PlannerOrders.l2])
          | succ k3 =>
           have H := HA.out
           clear HA
           simp only [standbylaw56_PlannerOrders.l2] at H
           by_cases c47 : 0 ≤ x68_1
           case neg =>
            rw [if_neg c47] at H
            exact absurd H (by simp)
           rw [if_pos c47] at H
           have c47b0 : decide (0 ≤ x68_1) = true := decide_eq_true c47
           clear c47
           by_cases c48 : x68_1 < (t339.length : Int)
           case neg =>
            rw [if_neg c48] at H
            exact absurd H (by simp)
           rw [if_pos c48] at H
           have c48b0 : decide (x68_1 < (t339.length : Int)) = true := decide_eq_true c48
           clear c48
           by_cases c49 : x12_3 < (rd t339 x68_1)
           ·rw [if_pos c49] at H
            have c49b0 : decide (x12_3 < (rd t339 x68_1)) = true := decide_eq_true c49
            clear c49
            replace H := Option.bind_eq_some_iff.mp H
            obtain ⟨t362, A500, H⟩ := H
            replace H : (standbylaw56_PlannerOrders.l2 k3 x68_1 x8_2 (wrap64 (x9_3 + t362)) x9_3 (wrap64 (x12_3 + 1)) (wrap64 (Int.tdiv (wrap64 ((wrap64 ((l0_0.length : Int) + a0_2)) - 1)) a0_2)) x68_1 l0_0 l0_1 a0_2 a0_3 a0_4 t333 t336 t339 t342 t345) = some r := H
            have A50 := Aside0.mk A500
            clear A500
            have H' := Aside0.mk H
            clear H
            have hnb51 := NB347_330.out
            have hnc51 := NB330_347.out
            have hcz52_0 : wr.cell? ⟨gb347, 0, none⟩ = some (.slice (some ad351) t333.length co17) := (blk_cell BK347.out 0).trans rfl
            have hcz52_1 : wr.cell? ⟨gb347, 1, none⟩ = some (.slice (some ad352) t336.length co20) := (blk_cell BK347.out 1).trans rfl
            have hcz52_2 : wr.cell? ⟨gb347, 2, none⟩ = some (.slice (some ad354) t339.length co21) := (blk_cell BK347.out 2).trans rfl
            have hcz52_3 : wr.cell? ⟨gb347, 3, none⟩ = some (.slice (some ad358) t342.length co22) := (blk_cell BK347.out 3).trans rfl
            have hcz52_4 : wr.cell? ⟨gb347, 4, none⟩ = some (.int .i64 t345) := (blk_cell BK347.out 4).trans rfl
            have hfz52_0 := blk_frozen BK347.out 0
            have hfz52_1 := blk_frozen BK347.out 1
            have hfz52_2 := blk_frozen BK347.out 2
            have hfz52_3 := blk_frozen BK347.out 3
            have hfz52_4 := blk_frozen BK347.out 4
            have p361 : 0 ≤ (x68_1 : Int) := of_decide_eq_true (by first | (with_reducible assumption) | assumption)
            have q361 : x68_1 < (t339.length : Int) := of_decide_eq_true (by first | (with_reducible assumption) | assumption)
            obtain ⟨ad361, e361, hx361_0⟩ := Kd.at_int (Kd.R_reads' HO_348002.out).2.2 x68_1 p361 q361
            obtain rfl : ad354 = ad361 := (by injection e361)
            replace p361 := eq_true p361
            replace q361 := eq_true q361
            have hcz53_0 : wr.cell? ⟨gb330, 0, none⟩ = some (.slice A0_0 l0_0.length c0_0) := (blk_cell BK330.out 0).trans rfl
            have hcz53_1 : wr.cell? ⟨gb330, 1, none⟩ = some (.slice A0_1 l0_1.length c0_1) := (blk_cell BK330.out 1).trans rfl
            have hcz53_2 : wr.cell? ⟨gb330, 2, none⟩ = some (.int .i64 a0_2) := (blk_cell BK330.out 2).trans rfl
            have hcz53_3 : wr.cell? ⟨gb330, 3, none⟩ = some (.int .i64 a0_3) := (blk_cell BK330.out 3).trans rfl
            have hcz53_4 : wr.cell? ⟨gb330, 4, none⟩ = some (.int .i64 a0_4) := (blk_cell BK330.out 4).trans rfl
            have hfz53_0 := blk_frozen BK330.out 0
            have hfz53_1 := blk_frozen BK330.out 1
            have hfz53_2 := blk_frozen BK330.out 2
            have hfz53_3 := blk_frozen BK330.out 3
            have hfz53_4 := blk_frozen BK330.out 4
            go_wp2_with (first | (go_at_call 24; (with_reducible refine (standbylaw56_capacity.calls _ _ l0_0 _ _ l0_1 a0_2 a0_3 a0_4 x12_3 t362 _ ?side1 ?side2 ?side3 ?side4 A50.out).mono ?_); (case side1 => exact qC HR0_0.out HB.out); (case side2 => exact HC0_0.out); (case side3 => exact qC HR0_1.out HB.out); (case side4 => exact HC0_1.out); rintro e w54 ⟨rfl, hb⟩; have n0_ := Aside0.mk (Kd.R_below (qR HO_348000.out) hb); have n1_ := Aside0.mk (Kd.R_below (qR HO_348001.out) hb); have n2_ := Aside0.mk (Kd.R_below (qR HO_348002.out) hb); have n3_ := Aside0.mk (Kd.R_below (qR HO_348003.out) hb); have n4_ := Aside0.mk (blk_below (qB BK330.out) hb); have n5_ := Aside0.mk (blk_below (qB BK347.out) hb); have n6_ := Aside0.mk (below_step (qW HB.out) hb); clear HO_348000 HO_348001 HO_348002 HO_348003 BK330 BK347 HB; have HO_348000 := n0_; have HO_348001 := n1_; have HO_348002 := n2_; have HO_348003 := n3_; have BK330 := n4_; have BK347 := n5_; have HB := n6_; clear n0_ n1_ n2_ n3_ n4_ n5_ n6_; (try clear hb); (try clear hb2); (try clear hk); (try clear hi)))
            repeat (go_quiet (first | (go_at_call 24; (with_reducible refine (standbylaw56_capacity.calls _ _ l0_0 _ _ l0_1 a0_2 a0_3 a0_4 x12_3 t362 _ ?side1 ?side2 ?side3 ?side4 A50.out).mono ?_); (case side1 => exact qC HR0_0.out HB.out); (case side2 => exact HC0_0.out); (case side3 => exact qC HR0_1.out HB.out); (case side4 => exact HC0_1.out); rintro e w54 ⟨rfl, hb⟩; have n0_ := Aside0.mk (Kd.R_below (qR HO_348000.out) hb); have n1_ := Aside0.mk (Kd.R_below (qR HO_348001.out) hb); have n2_ := Aside0.mk (Kd.R_below (qR HO_348002.out) hb); have n3_ := Aside0.mk (Kd.R_below (qR HO_348003.out) hb); have n4_ := Aside0.mk (blk_below (qB BK330.out) hb); have n5_ := Aside0.mk (blk_below (qB BK347.out) hb); have n6_ := Aside0.mk (below_step (qW HB.out) hb); clear HO_348000 HO_348001 HO_348002 HO_348003 BK330 BK347 HB; have HO_348000 := n0_; have HO_348001 := n1_; have HO_348002 := n2_; have HO_348003 := n3_; have BK330 := n4_; have BK347 := n5_; have HB := n6_; clear n0_ n1_ n2_ n3_ n4_ n5_ n6_; (try clear hb); (try clear hb2); (try clear hk); (try clear hi))); try go_wp2_with (first | (go_at_call 24; (with_reducible refine (standbylaw56_capacity.calls _ _ l0_0 _ _ l0_1 a0_2 a0_3 a0_4 x12_3 t362 _ ?side1 ?side2 ?side3 ?side4 A50.out).mono ?_); (case side1 => exact qC HR0_0.out HB.out); (case side2 => exact HC0_0.out); (case side3 => exact qC HR0_1.out HB.out); (case side4 => exact HC0_1.out); rintro e w54 ⟨rfl, hb⟩; have n0_ := Aside0.mk (Kd.R_below (qR HO_348000.out) hb); have n1_ := Aside0.mk (Kd.R_below (qR HO_348001.out) hb); have n2_ := Aside0.mk (Kd.R_below (qR HO_348002.out) hb); have n3_ := Aside0.mk (Kd.R_below (qR HO_348003.out) hb); have n4_ := Aside0.mk (blk_below (qB BK330.out) hb); have n5_ := Aside0.mk (blk_below (qB BK347.out) hb); have n6_ := Aside0.mk (below_step (qW HB.out) hb); clear HO_348000 HO_348001 HO_348002 HO_348003 BK330 BK347 HB; have HO_348000 := n0_; have HO_348001 := n1_; have HO_348002 := n2_; have HO_348003 := n3_; have BK330 := n4_; have BK347 := n5_; have HB := n6_; clear n0_ n1_ n2_ n3_ n4_ n5_ n6_; (try clear hb); (try clear hb2); (try clear hk); (try clear hi))))
            go_roundg k3
            case measure => have := HK1.out; have := HK2.out; have := HK3.out; omega
            case rel => exact ⟨(wrap64 (x9_3 + t362)), (x9_3), (wrap64 (x12_3 + 1)), (by first | rfl | (simp; done) | (simp [*]; done)), (by first | rfl | (simp; done) | (simp [*]; done)), (by first | rfl | (simp; done) | (simp [*]; done)), H', ⟨by have := HK1.out; have := HK2.out; have := HK3.out; omega⟩, ⟨by exact qR HO_348000.out⟩, ⟨by exact qR HO_348001.out⟩, ⟨by exact qR HO_348002.out⟩, ⟨by exact qR HO_348003.out⟩, ⟨by exact qB BK330.out⟩, ⟨by exact qB BK347.out⟩, ⟨by repeat (first | (with_reducible first | exact HB.out | apply below_alloc | apply pw_below_drewN | apply below_drew1 | refine below_set ?_ GE330.out | refine below_set ?_ GE347.out) | exact HB.out)⟩⟩
           ·rw [if_neg c49] at H
            have c49b0 : decide (x12_3 < (rd t339 x68_1)) = false := decide_eq_false c49
            clear c49
            by_cases c55 : x9_3 < x8_2
            ·rw [if_pos c55] at H
             exact absurd H (by simp)
            ·rw [if_neg c55] at H
             have c55b0 : decide (x9_3 < x8_2) = false := decide_eq_false c55
             clear c55
             by_cases c56 : x10_3 ≥ x8_2
             case neg =>
              rw [if_neg c56] at H
              have c56b0 : decide (x8_2 ≤ x10_3) = false := decide_eq_false c56
              clear c56
              have H' := Aside0.mk H
              clear H
              have hnb61 := NB347_330.out
              have hnc61 := NB330_347.out
              have hcz62_0 : wr.cell? ⟨gb347, 0, none⟩ = some (.slice (some ad351) t333.length co17) := (blk_cell BK347.out 0).trans rfl
              have hcz62_1 : wr.cell? ⟨gb347, 1, none⟩ = some (.slice (some ad352) t336.length co20) := (blk_cell BK347.out 1).trans rfl
              have hcz62_2 : wr.cell? ⟨gb347, 2, none⟩ = some (.slice (some ad354) t339.length co21) := (blk_cell BK347.out 2).trans rfl
              have hcz62_3 : wr.cell? ⟨gb347, 3, none⟩ = some (.slice (some ad358) t342.length co22) := (blk_cell BK347.out 3).trans rfl
              have hcz62_4 : wr.cell? ⟨gb347, 4, none⟩ = some (.int .i64 t345) := (blk_cell BK347.out 4).trans rfl
              have hfz62_0 := blk_frozen BK347.out 0
              have hfz62_1 := blk_frozen BK347.out 1
              have hfz62_2 := blk_frozen BK347.out 2
              have hfz62_3 := blk_frozen BK347.out 3
              have hfz62_4 := blk_frozen BK347.out 4
              have p361 : 0 ≤ (x68_1 : Int) := of_decide_eq_true (by first | (with_reducible assumption) | assumption)
              have q361 : x68_1 < (t339.length : Int) := of_decide_eq_true (by first | (with_reducible assumption) | assumption)
              obtain ⟨ad361, e361, hx361_0⟩ := Kd.at_int (Kd.R_reads' HO_348002.out).2.2 x68_1 p361 q361
              obtain rfl : ad354 = ad361 := (by injection e361)
              replace p361 := eq_true p361
              replace q361 := eq_true q361
              have p366 : 0 ≤ (x68_1 : Int) := of_decide_eq_true (by first | (with_reducible assumption) | assumption)
              have q366 : x68_1 < (t339.length : Int) := of_decide_eq_true (by first | (with_reducible assumption) | assumption)
              obtain ⟨ad366, e366, hx366_0⟩ := Kd.at_int (Kd.R_reads' HO_348002.out).2.2 x68_1 p366 q366
              obtain rfl : ad354 = ad366 := (by injection e366)
              replace p366 := eq_true p366
              replace q366 := eq_true q366
              go_wp2
              repeat (go_quiet (fail); try go_wp2)
              go_roundg k3
              case measure => have := HK1.out; have := HK2.out; have := HK3.out; omega
              case rel => exact ⟨(rd t339 x68_1), (wrap64 (x68_1 + 1)), (by first | rfl | (simp; done) | (simp [*]; done)), (by first | rfl | (simp; done) | (simp [*]; done)), H', ⟨by have := HK1.out; have := HK2.out; have := HK3.out; omega⟩, ⟨by exact qR HO_348000.out⟩, ⟨by exact qR HO_348001.out⟩, ⟨by exact qR HO_348002.out⟩, ⟨by exact qR HO_348003.out⟩, ⟨by exact qB BK330.out⟩, ⟨by exact qB BK347.out⟩, ⟨by repeat (first | (with_reducible first | exact HB.out | apply below_alloc | apply pw_below_drewN | apply below_drew1 | refine below_set ?_ GE330.out | refine below_set ?_ GE347.out) | exact HB.out)⟩⟩
             rw [if_pos c56] at H
             have c56b0 : decide (x8_2 ≤ x10_3) = true := decide_eq_true c56
             clear c56
             by_cases c57 : x68_1 < (t336.length : Int)
             case neg =>
              rw [if_neg c57] at H
              exact absurd H (by simp)
             rw [if_pos c57] at H
             have c57b0 : decide (x68_1 < (t336.length : Int)) = true := decide_eq_true c57
             clear c57
             by_cases c58 : (rd t339 x68_1) > (rd t336 x68_1)
             ·rw [if_pos c58] at H
              exact absurd H (by simp)
             ·rw [if_neg c58] at H
              have c58b0 : decide ((rd t336 x68_1) < (rd t339 x68_1)) = false := decide_eq_false c58
              clear c58
              have H' := Aside0.mk H
              clear H
              have hnb59 := NB347_330.out
              have hnc59 := NB330_347.out
              have hcz60_0 : wr.cell? ⟨gb347, 0, none⟩ = some (.slice (some ad351) t333.length co17) := (blk_cell BK347.out 0).trans rfl
              have hcz60_1 : wr.cell? ⟨gb347, 1, none⟩ = some (.slice (some ad352) t336.length co20) := (blk_cell BK347.out 1).trans rfl
              have hcz60_2 : wr.cell? ⟨gb347, 2, none⟩ = some (.slice (some ad354) t339.length co21) := (blk_cell BK347.out 2).trans rfl
              have hcz60_3 : wr.cell? ⟨gb347, 3, none⟩ = some (.slice (some ad358) t342.length co22) := (blk_cell BK347.out 3).trans rfl
              have hcz60_4 : wr.cell? ⟨gb347, 4, none⟩ = some (.int .i64 t345) := (blk_cell BK347.out 4).trans rfl
              have hfz60_0 := blk_frozen BK347.out 0
              have hfz60_1 := blk_frozen BK347.out 1
              have hfz60_2 := blk_frozen BK347.out 2
              have hfz60_3 := blk_frozen BK347.out 3
              have hfz60_4 := blk_frozen BK347.out 4
              have p361 : 0 ≤ (x68_1 : Int) := of_decide_eq_true (by first | (with_reducible assumption) | assumption)
              have q361 : x68_1 < (t339.length : Int) := of_decide_eq_true (by first | (with_reducible assumption) | assumption)
              obtain ⟨ad361, e361, hx361_0⟩ := Kd.at_int (Kd.R_reads' HO_348002.out).2.2 x68_1 p361 q361
              obtain rfl : ad354 = ad361 := (by injection e361)
              replace p361 := eq_true p361
              replace q361 := eq_true q361
              have p363 : 0 ≤ (x68_1 : Int) := of_decide_eq_true (by first | (with_reducible assumption) | assumption)
              have q363 : x68_1 < (t339.length : Int) := of_decide_eq_true (by first | (with_reducible assumption) | assumption)
              obtain ⟨ad363, e363, hx363_0⟩ := Kd.at_int (Kd.R_reads' HO_348002.out).2.2 x68_1 p363 q363
              obtain rfl : ad354 = ad363 := (by injection e363)
              replace p363 := eq_true p363
              replace q363 := eq_true q363
              have p364 : 0 ≤ (x68_1 : Int) := of_decide_eq_true (by first | (with_reducible assumption) | assumption)
              have q364 : x68_1 < (t336.length : Int) := of_decide_eq_true (by first | (with_reducible assumption) | assumption)
              obtain ⟨ad364, e364, hx364_0⟩ := Kd.at_int (Kd.R_reads' HO_348001.out).2.2 x68_1 p364 q364
              obtain rfl : ad352 = ad364 := (by injection e364)
              replace p364 := eq_true p364
              replace q364 := eq_true q364
              have p365 : 0 ≤ (x68_1 : Int) := of_decide_eq_true (by first | (with_reducible assumption) | assumption)
              have q365 : x68_1 < (t339.length : Int) := of_decide_eq_true (by first | (with_reducible assumption) | assumption)
              obtain ⟨ad365, e365, hx365_0⟩ := Kd.at_int (Kd.R_reads' HO_348002.out).2.2 x68_1 p365 q365
              obtain rfl : ad354 = ad365 := (by injection e365)
              replace p365 := eq_true p365
              replace q365 := eq_true q365
              go_wp2
              repeat (go_quiet (fail); try go_wp2)
              go_roundg k3
              case measure => have := HK1.out; have := HK2.out; have := HK3.out; omega
              case rel => exact ⟨(rd t339 x68_1), (wrap64 (x68_1 + 1)), (by first | rfl | (simp; done) | (simp [*]; done)), (by first | rfl | (simp; done) | (simp [*]; done)), H', ⟨by have := HK1.out; have := HK2.out; have := HK3.out; omega⟩, ⟨by exact qR HO_348000.out⟩, ⟨by exact qR HO_348001.out⟩, ⟨by exact qR HO_348002.out⟩, ⟨by exact qR HO_348003.out⟩, ⟨by exact qB BK330.out⟩, ⟨by exact qB BK347.out⟩, ⟨by repeat (first | (with_reducible first | exact HB.out | apply below_alloc | apply pw_below_drewN | apply below_drew1 | refine below_set ?_ GE330.out | refine below_set ?_ GE347.out) | exact HB.out)⟩⟩
end Go.Proofs.Ytcflacjidabppaa.Pr

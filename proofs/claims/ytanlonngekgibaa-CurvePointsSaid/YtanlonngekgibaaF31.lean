-- Written by pp.py, a program of this session, over the translation of the given program; a machine's text: Lean checks it.
import Derived.Test.YtanlonngekgibaaGShort
import Derived.Test.YtanlonngekgibaaF45
import Derived.Test.YtanlonngekgibaaF51
import Derived.Test.YtanlonngekgibaaF52
import Derived.Test.YtanlonngekgibaaF54
namespace Go.Proofs.Ytanlonngekgibaa.Pr
open Go.RowKit Go.Proofs.YtanlonngekgibaaW.PrintWords Go.Proofs.YtanlonngekgibaaW.PrintLast Go.Proofs.YtanlonngekgibaaW.PrintMore
attribute [local go_sem] max2_int min2_int max_two min_two max_three min_three max_four min_four   -- for this text's walks alone
set_option linter.unusedVariables false
set_option linter.unusedSimpArgs false

/-! ### standbyref55_Min: function 31 -/
def standbyref55_Min.l0 : Nat → Int → Int → List Int → Int → List Int → Int → List Int → Int → Option (List Int × Int × Int)
 | 0, _, _, _, _, _, _, _, _ => none
 | k + 1, x7, x8, x9, x10, x451000, x451001, x452000, x452001 => if x10 < (wrap64 (x7 + x8)) then ((standbyref55_value.f x451000 x451001 x10).bind fun t457 => ((standbyref55_value.f x452000 x452001 x10).bind fun t458 => (if x9.length < 17592186044416 then (standbyref55_Min.l0 k x7 x8 (x9 ++ [mn t457 t458]) (wrap64 (x10 + 1)) x451000 x451001 x452000 x452001) else (none)))) else ((standbyref55_finish.f k x9 (mn x451001 x452001)).bind fun bt462 => (some (bt462.1, bt462.2.1, bt462.2.2)))
def standbyref55_Min.f (k : Nat) (l0_0 : List Int) (a0_1 : Int) (l1_0 : List Int) (a1_1 : Int) : Option (List Int × Int × Int) := (standbyref55_pair.f k l0_0 a0_1 l1_0 a1_1).bind fun t453 => (if t453 = 0 then ((standbyref55_value.f l0_0 a0_1 (wrap64 ((mx (l0_0.length : Int) (l1_0.length : Int)) - 1))).bind fun t454 => ((standbyref55_value.f l1_0 a1_1 (wrap64 ((mx (l0_0.length : Int) (l1_0.length : Int)) - 1))).bind fun t455 => ((standbyref55_crossing.f t454 a0_1 t455 a1_1).bind fun t456 => (if (wrap64 ((mx (l0_0.length : Int) (l1_0.length : Int)) + t456)) > 4096 then (some (([] : List Int), 0, 5)) else (standbyref55_Min.l0 k (mx (l0_0.length : Int) (l1_0.length : Int)) t456 ([] : List Int) 0 l0_0 a0_1 l1_0 a1_1))))) else (some (([] : List Int), 0, t453)))
theorem standbyref55_Min.mono_l : ∀ k, (∀ y0 y1 y2 y3 y4 y5 y6 y7, LeO (standbyref55_Min.l0 k y0 y1 y2 y3 y4 y5 y6 y7) (standbyref55_Min.l0 (k + 1) y0 y1 y2 y3 y4 y5 y6 y7))
 | 0 => fun _ _ _ _ _ _ _ _ r h => by simp [standbyref55_Min.l0] at h
 | k + 1 => by
  have ih0 := standbyref55_Min.mono_l k
  ·intro y0 y1 y2 y3 y4 y5 y6 y7
   unfold standbyref55_Min.l0
   repeat' first
   | (with_reducible exact ih0 _ _ _ _ _ _ _ _)
   | (with_reducible exact standbyref55_finish.mono _ _ _)
   | (with_reducible exact standbyref55_pair.mono _ _ _ _ _)
   | (with_reducible exact LeO.refl _)
   | (with_reducible exact LeO.none _)
   | (with_reducible refine LeO.ite ?_ ?_)
   | (with_reducible refine LeO.bind ?_ (fun _ => ?_))
   | exact ih0 _ _ _ _ _ _ _ _
   | exact standbyref55_finish.mono _ _ _
   | exact standbyref55_pair.mono _ _ _ _ _
   | exact LeO.none _
   | refine LeO.ite ?_ ?_
   | refine LeO.bind ?_ (fun _ => ?_)
theorem standbyref55_Min.mono : ∀ a0 a1 a2 a3 k, LeO (standbyref55_Min.f k a0 a1 a2 a3) (standbyref55_Min.f (k + 1) a0 a1 a2 a3) := by
 intro a0 a1 a2 a3 k
 have ih0 := standbyref55_Min.mono_l k
 unfold standbyref55_Min.f
 repeat' first
   | (with_reducible exact ih0 _ _ _ _ _ _ _ _)
   | (with_reducible exact standbyref55_finish.mono _ _ _)
   | (with_reducible exact standbyref55_pair.mono _ _ _ _ _)
   | (with_reducible exact LeO.refl _)
   | (with_reducible exact LeO.none _)
   | (with_reducible refine LeO.ite ?_ ?_)
   | (with_reducible refine LeO.bind ?_ (fun _ => ?_))
   | exact ih0 _ _ _ _ _ _ _ _
   | exact standbyref55_finish.mono _ _ _
   | exact standbyref55_pair.mono _ _ _ _ _
   | exact LeO.none _
   | refine LeO.ite ?_ ?_
   | refine LeO.bind ?_ (fun _ => ?_)
def standbyref55_Min.T5 : Bool × List (List Nat × List Nat) := (true, [([], []), ([], []), ([1], [1]), ([0, 2], [0, 2]), ([], []), ([4], [4]), ([], []), ([], []), ([7], [7]), ([6, 8, 3], [6, 8]), ([], []), ([10], [10]), ([3, 5, 9, 11, 9], [3, 5, 9, 11]), ([12, 12, 0, 1, 2, 3, 4, 5, 6, 7, 8, 9, 10, 11, 12], [12])])
def standbyref55_Min.B5 : List Nat := [0, 0, 2, 7, 0, 16, 0, 0, 128, 463, 0, 1024, 4095, 8191]
theorem standbyref55_Min.tab5 : rtab .any (opsOf Try.f31 5) = standbyref55_Min.T5 := by kernel_rfl
theorem standbyref55_Min.bits5 : waitsOk standbyref55_Min.T5.2 standbyref55_Min.B5 = true := by kernel_rfl
def standbyref55_Min.T12 : Bool × List (List Nat × List Nat) := (true, [([], []), ([], []), ([], []), ([1, 2], [1, 2]), ([], []), ([], []), ([4, 5, 3], [4, 5]), ([3, 6], [3, 6]), ([7], [7]), ([0, 8, 6], [0, 8]), ([9, 9, 0, 1, 2, 3, 4, 5, 6, 7, 8, 9], [0, 9])])
def standbyref55_Min.B12 : List Nat := [0, 0, 0, 6, 0, 0, 62, 126, 254, 511, 1023]
theorem standbyref55_Min.tab12 : rtab .any (opsOf Try.f31 12) = standbyref55_Min.T12 := by kernel_rfl
theorem standbyref55_Min.bits12 : waitsOk standbyref55_Min.T12.2 standbyref55_Min.B12 = true := by kernel_rfl
set_option maxHeartbeats 8000000 in
set_option maxRecDepth 100000 in
theorem standbyref55_Min.calls (k : Nat) (A0_0 : Option Addr) (c0_0 : Nat) (l0_0 : List Int) (a0_1 : Int) (A1_0 : Option Addr) (c1_0 : Nat) (l1_0 : List Int) (a1_1 : Int) (r1 : List Int) (r2 : Int) (r3 : Int) (w : World) (hr0_0 : Kd.C (Kd.int .i64) w A0_0 l0_0.length l0_0) (hc0_0 : l0_0.length ≤ c0_0) (hr1_0 : Kd.C (Kd.int .i64) w A1_0 l1_0.length l1_0) (hc1_0 : l1_0.length ≤ c1_0) (h : standbyref55_Min.f k l0_0 a0_1 l1_0 a1_1 = some (r1, r2, r3)) :
  Calls Try.prog 31 #[.agg #[.slice A0_0 l0_0.length c0_0, .int .i64 a0_1], .agg #[.slice A1_0 l1_0.length c1_0, .int .i64 a1_1]] w fun e w' => ∃ v0_ : Value, e = .returned (.tuple #[.agg #[v0_, .int .i64 r2], .int .i64 r3]) ∧ Kd.R (Kd.int .i64) 3 w' w.heap.size (fun _ => True) v0_ r1 ∧ Below w.heap.size w w' := by
 have hu24 := Try.underlying24
 have HR0_0 := Aside0.mk hr0_0
 have HC0_0 := Aside0.mk hc0_0
 clear hr0_0 hc0_0
 have HR1_0 := Aside0.mk hr1_0
 have HC1_0 := Aside0.mk hc1_0
 clear hr1_0 hc1_0
 have HB := Aside0.mk (Below.refl w.heap.size w)
 have H : ((standbyref55_pair.f k l0_0 a0_1 l1_0 a1_1).bind fun t453 => (if t453 = 0 then ((standbyref55_value.f l0_0 a0_1 (wrap64 ((mx (l0_0.length : Int) (l1_0.length : Int)) - 1))).bind fun t454 => ((standbyref55_value.f l1_0 a1_1 (wrap64 ((mx (l0_0.length : Int) (l1_0.length : Int)) - 1))).bind fun t455 => ((standbyref55_crossing.f t454 a0_1 t455 a1_1).bind fun t456 => (if (wrap64 ((mx (l0_0.length : Int) (l1_0.length : Int)) + t456)) > 4096 then (some (([] : List Int), 0, 5)) else (standbyref55_Min.l0 k (mx (l0_0.length : Int) (l1_0.length : Int)) t456 ([] : List Int) 0 l0_0 a0_1 l1_0 a1_1))))) else (some (([] : List Int), 0, t453)))) = some (r1, r2, r3) := h
 clear h
 replace H := Option.bind_eq_some_iff.mp H
 obtain ⟨t453, A30, H⟩ := H
 replace H : (if t453 = 0 then ((standbyref55_value.f l0_0 a0_1 (wrap64 ((mx (l0_0.length : Int) (l1_0.length : Int)) - 1))).bind fun t454 => ((standbyref55_value.f l1_0 a1_1 (wrap64 ((mx (l0_0.length : Int) (l1_0.length : Int)) - 1))).bind fun t455 => ((standbyref55_crossing.f t454 a0_1 t455 a1_1).bind fun t456 => (if (wrap64 ((mx (l0_0.length : Int) (l1_0.length : Int)) + t456)) > 4096 then (some (([] : List Int), 0, 5)) else (standbyref55_Min.l0 k (mx (l0_0.length : Int) (l1_0.length : Int)) t456 ([] : List Int) 0 l0_0 a0_1 l1_0 a1_1))))) else (some (([] : List Int), 0, t453))) = some (r1, r2, r3) := H
 have A3 := Aside0.mk A30
 clear A30
 by_cases c4 : t453 = 0
 case neg =>
  rw [if_neg c4] at H
  have c4b0 : (t453 == 0) = false := beq_eq_false_iff_ne.mpr c4
  have c4b1 : (t453 != 0) = true := bne_iff_ne.mpr c4
  simp only [Option.some.injEq, Prod.mk.injEq] at H
  obtain ⟨rfl, rfl, rfl⟩ := H
  go_enter Try.func31, Try.ntmps31
  go_wp2_with (first | ((with_reducible refine gate_dst (N := 2) rfl ?_); refine box_event ?hg (N := 2) ?hd (cs := #[.slice A0_0 l0_0.length c0_0, .int .i64 a0_1]) (t := 24) ?hr ?_; (case hd => rfl); (case hg => rfl); (case hr => first | (go_simp; done) | (go_simp; rfl)); intro gb450 hg w59 hbox hb; have n0_ := Aside0.mk (below_step (qW HB.out) hb); have n1_ := Aside0.mk (hbox); have n2_ := Aside0.mk ((by rw [hg]; exact (below_size (qW HB.out)) : w.heap.size ≤ gb450)); have n3_ := Aside0.mk ((by rw [hg]; exact (below_size (qW HB.out)) : w.heap.size ≤ gb450)); clear HB; have HB := n0_; have BK450 := n1_; have GW450 := n2_; have GE450 := n3_; clear n0_ n1_ n2_ n3_ hb hbox hg) | ((with_reducible refine gate_dst (N := 3) rfl ?_); refine box_event ?hg (N := 3) ?hd (cs := #[.slice A1_0 l1_0.length c1_0, .int .i64 a1_1]) (t := 24) ?hr ?_; (case hd => rfl); (case hg => rfl); (case hr => first | (go_simp; done) | (go_simp; rfl)); intro gb451 hg w60 hbox hb; have n0_ := Aside0.mk (blk_below (qB BK450.out) hb); have n1_ := Aside0.mk (below_step (qW HB.out) hb); have n2_ := Aside0.mk (hbox); have n3_ := Aside0.mk ((by rw [hg]; exact (below_size (qW HB.out)) : w.heap.size ≤ gb451)); have n4_ := Aside0.mk ((by rw [hg]; exact (below_size (qW HB.out)) : w.heap.size ≤ gb451)); have n5_ := Aside0.mk ((by rw [hg]; exact Nat.ne_of_lt (blk_lt (qB BK450.out)) : gb450 ≠ gb451)); have n6_ := Aside0.mk ((by rw [hg]; exact Nat.ne_of_gt (blk_lt (qB BK450.out)) : gb451 ≠ gb450)); clear BK450 HB; have BK450 := n0_; have HB := n1_; have BK451 := n2_; have GW451 := n3_; have GE451 := n4_; have NB450_451 := n5_; have NB451_450 := n6_; clear n0_ n1_ n2_ n3_ n4_ n5_ n6_ hb hbox hg) | ((with_reducible refine gate_dst (N := 4) rfl ?_); refine box_event ?hg (N := 4) ?hd (cs := #[.slice none 0 0, .int .i64 0]) (t := 24) ?hr ?_; (case hd => rfl); (case hg => rfl); (case hr => first | (go_simp; done) | (go_simp; rfl)); intro gb452 hg w61 hbox hb; have n0_ := Aside0.mk (blk_below (qB BK450.out) hb); have n1_ := Aside0.mk (blk_below (qB BK451.out) hb); have n2_ := Aside0.mk (below_step (qW HB.out) hb); have n3_ := Aside0.mk (hbox); have n4_ := Aside0.mk ((by rw [hg]; exact (below_size (qW HB.out)) : w.heap.size ≤ gb452)); have n5_ := Aside0.mk ((by rw [hg]; exact (below_size (qW HB.out)) : w.heap.size ≤ gb452)); have n6_ := Aside0.mk ((by rw [hg]; exact Nat.ne_of_lt (blk_lt (qB BK450.out)) : gb450 ≠ gb452)); have n7_ := Aside0.mk ((by rw [hg]; exact Nat.ne_of_gt (blk_lt (qB BK450.out)) : gb452 ≠ gb450)); have n8_ := Aside0.mk ((by rw [hg]; exact Nat.ne_of_lt (blk_lt (qB BK451.out)) : gb451 ≠ gb452)); have n9_ := Aside0.mk ((by rw [hg]; exact Nat.ne_of_gt (blk_lt (qB BK451.out)) : gb452 ≠ gb451)); clear BK450 BK451 HB; have BK450 := n0_; have BK451 := n1_; have HB := n2_; have BK452 := n3_; have GW452 := n4_; have GE452 := n5_; have NB450_452 := n6_; have NB452_450 := n7_; have NB451_452 := n8_; have NB452_451 := n9_; clear n0_ n1_ n2_ n3_ n4_ n5_ n6_ n7_ n8_ n9_ hb hbox hg; have hnb62 := NB450_451.out; have hnc62 := NB451_450.out; have hnb63 := NB450_452.out; have hnc63 := NB452_450.out; have hcz64_0 : w61.cell? ⟨gb450, 0, none⟩ = some (.slice A0_0 l0_0.length c0_0) := (blk_cell BK450.out 0).trans rfl; have hcz64_1 : w61.cell? ⟨gb450, 1, none⟩ = some (.int .i64 a0_1) := (blk_cell BK450.out 1).trans rfl; have hfz64_0 := blk_frozen BK450.out 0; have hfz64_1 := blk_frozen BK450.out 1; have hnb65 := NB451_452.out; have hnc65 := NB452_451.out; have hcz66_0 : w61.cell? ⟨gb451, 0, none⟩ = some (.slice A1_0 l1_0.length c1_0) := (blk_cell BK451.out 0).trans rfl; have hcz66_1 : w61.cell? ⟨gb451, 1, none⟩ = some (.int .i64 a1_1) := (blk_cell BK451.out 1).trans rfl; have hfz66_0 := blk_frozen BK451.out 0; have hfz66_1 := blk_frozen BK451.out 1) | ((with_reducible refine gate_callee (f := 51) rfl ?_); refine goesL_ (some 13) rfl rfl Try.func51 (by kernel_rfl) rfl #[.agg #[.slice A0_0 l0_0.length c0_0, .int .i64 a0_1], .agg #[.slice A1_0 l1_0.length c1_0, .int .i64 a1_1]] rfl (by (try simp only [List.map_toArray, List.map_cons, List.map_nil]); first | done | rfl | (simp only [List.length_drop, List.length_take]; rfl)) ?_; (with_reducible refine (standbyref55_pair.calls k _ _ l0_0 a0_1 _ _ l1_0 a1_1 t453 _ ?side1 ?side2 ?side3 ?side4 A3.out).mono ?_); (case side1 => exact qC HR0_0.out HB.out); (case side2 => exact HC0_0.out); (case side3 => exact qC HR1_0.out HB.out); (case side4 => exact HC1_0.out); rintro e w67 ⟨rfl, hb⟩; refine ⟨_, rfl, ?_⟩; have n0_ := Aside0.mk (blk_below (qB BK450.out) hb); have n1_ := Aside0.mk (blk_below (qB BK451.out) hb); have n2_ := Aside0.mk (blk_below (qB BK452.out) hb); have n3_ := Aside0.mk (below_step (qW HB.out) hb); clear BK450 BK451 BK452 HB; have BK450 := n0_; have BK451 := n1_; have BK452 := n2_; have HB := n3_; clear n0_ n1_ n2_ n3_; (try clear hb); (try clear hb2); (try clear hk); (try clear hi); have hcz68_0 : w67.cell? ⟨gb452, 0, none⟩ = some (.slice none 0 0) := (blk_cell BK452.out 0).trans rfl; have hcz68_1 : w67.cell? ⟨gb452, 1, none⟩ = some (.int .i64 0) := (blk_cell BK452.out 1).trans rfl; have hfz68_0 := blk_frozen BK452.out 0; have hfz68_1 := blk_frozen BK452.out 1))
  refine bodyPost_ret (results_ct rfl _ _ gb452 24 #[.slice none 0 0, .int .i64 0] (0, 0) _ rfl (by (with_reducible repeat (first | refine blk_drewN ?_ _ | refine blk_drew ?_ | refine blk_alloc ?_ _)); refine blk_put (cs := #[.slice none 0 0, .int .i64 0]) ?_ 1 _ rfl; (with_reducible repeat (first | refine blk_drewN ?_ _ | refine blk_drew ?_ | refine blk_alloc ?_ _)); refine blk_put (cs := #[.slice none 0 0, .int .i64 0]) ?_ 0 _ rfl; exact qB BK452.out) Try.underlying24 rfl (by kernel_rfl)) rfl ?_
  exact ⟨_, by first | rfl | (simp [errW_none, errW_some] <;> rfl) | (simp [*, errW_none, errW_some] <;> rfl), by first | exact Kd.R_nil _ _ _ _ _ | exact Kd.N_nil _ _ _ _ _ | exact Kd.V_nil _ _ _ _ _ | exact Kd.Q_nil _ _ _ _ _ | exact Kd.S_nil _ _ _ _ _, by repeat (first | (with_reducible first | exact HB.out | apply below_alloc | apply pw_below_drewN | apply below_drew1 | refine below_set ?_ GE450.out | refine below_set ?_ GE451.out | refine below_set ?_ GE452.out) | exact HB.out)⟩

 rw [if_pos c4] at H
 have c4b0 : (t453 == 0) = true := beq_iff_eq.mpr c4
 have c4b1 : (t453 != 0) = false := bne_eq_false_iff_eq.mpr c4
 clear c4
 obtain ⟨ji5, hji5⟩ : ∃ j_ : Int, (mx (l0_0.length : Int) (l1_0.length : Int)) = j_ := ⟨_, rfl⟩
 replace H : ((standbyref55_value.f l0_0 a0_1 (wrap64 ((ji5) - 1))).bind fun t454 => ((standbyref55_value.f l1_0 a1_1 (wrap64 ((ji5) - 1))).bind fun t455 => ((standbyref55_crossing.f t454 a0_1 t455 a1_1).bind fun t456 => (if (wrap64 ((ji5) + t456)) > 4096 then (some (([] : List Int), 0, 5)) else (standbyref55_Min.l0 k ji5 t456 ([] : List Int) 0 l0_0 a0_1 l1_0 a1_1))))) = some (r1, r2, r3) := by first | (rw [hji5] at H; exact H) | (simp only [hji5] at H ⊢; exact H)
 (try rw [hji5] at A3)
 (try (have hji5l : 0 ≤ ji5 := by (rw [← hji5]; unfold mx; (repeat' split) <;> omega)))
 (try (have hji5m : 0 ≤ ji5 := by omega))
 have hji5_ : (if (l0_0.length : Int) < (l1_0.length : Int) then (l1_0.length : Int) else (l0_0.length : Int)) = ji5 := hji5
 have hji5n : (if l0_0.length < l1_0.length then (l1_0.length : Int) else (l0_0.length : Int)) = ji5 := by rw [← hji5]; unfold mx; simp only [Int.ofNat_lt]
 replace H := Option.bind_eq_some_iff.mp H
 obtain ⟨t454, A60, H⟩ := H
 replace H : ((standbyref55_value.f l1_0 a1_1 (wrap64 ((ji5) - 1))).bind fun t455 => ((standbyref55_crossing.f t454 a0_1 t455 a1_1).bind fun t456 => (if (wrap64 ((ji5) + t456)) > 4096 then (some (([] : List Int), 0, 5)) else (standbyref55_Min.l0 k ji5 t456 ([] : List Int) 0 l0_0 a0_1 l1_0 a1_1)))) = some (r1, r2, r3) := H
 have A6 := Aside0.mk A60
 clear A60
 replace H := Option.bind_eq_some_iff.mp H
 obtain ⟨t455, A70, H⟩ := H
 replace H : ((standbyref55_crossing.f t454 a0_1 t455 a1_1).bind fun t456 => (if (wrap64 ((ji5) + t456)) > 4096 then (some (([] : List Int), 0, 5)) else (standbyref55_Min.l0 k ji5 t456 ([] : List Int) 0 l0_0 a0_1 l1_0 a1_1))) = some (r1, r2, r3) := H
 have A7 := Aside0.mk A70
 clear A70
 replace H := Option.bind_eq_some_iff.mp H
 obtain ⟨t456, A80, H⟩ := H
 replace H : (if (wrap64 ((ji5) + t456)) > 4096 then (some (([] : List Int), 0, 5)) else (standbyref55_Min.l0 k ji5 t456 ([] : List Int) 0 l0_0 a0_1 l1_0 a1_1)) = some (r1, r2, r3) := H
 have A8 := Aside0.mk A80
 clear A80
 by_cases c9 : (wrap64 ((ji5) + t456)) > 4096
 ·rw [if_pos c9] at H
  have c9b0 : decide (4096 < (wrap64 ((ji5) + t456))) = true := decide_eq_true c9
  clear c9
  simp only [Option.some.injEq, Prod.mk.injEq] at H
  obtain ⟨rfl, rfl, rfl⟩ := H
  go_enter Try.func31, Try.ntmps31
  try go_wp2_with (first | ((with_reducible refine gate_dst (N := 2) rfl ?_); refine box_event ?hg (N := 2) ?hd (cs := #[.slice A0_0 l0_0.length c0_0, .int .i64 a0_1]) (t := 24) ?hr ?_; (case hd => rfl); (case hg => rfl); (case hr => first | (go_simp; done) | (go_simp; rfl)); intro gb450 hg w10 hbox hb; have n0_ := Aside0.mk (below_step (qW HB.out) hb); have n1_ := Aside0.mk (hbox); have n2_ := Aside0.mk ((by rw [hg]; exact (below_size (qW HB.out)) : w.heap.size ≤ gb450)); have n3_ := Aside0.mk ((by rw [hg]; exact (below_size (qW HB.out)) : w.heap.size ≤ gb450)); clear HB; have HB := n0_; have BK450 := n1_; have GW450 := n2_; have GE450 := n3_; clear n0_ n1_ n2_ n3_ hb hbox hg) | ((with_reducible refine gate_dst (N := 3) rfl ?_); refine box_event ?hg (N := 3) ?hd (cs := #[.slice A1_0 l1_0.length c1_0, .int .i64 a1_1]) (t := 24) ?hr ?_; (case hd => rfl); (case hg => rfl); (case hr => first | (go_simp; done) | (go_simp; rfl)); intro gb451 hg w11 hbox hb; have n0_ := Aside0.mk (blk_below (qB BK450.out) hb); have n1_ := Aside0.mk (below_step (qW HB.out) hb); have n2_ := Aside0.mk (hbox); have n3_ := Aside0.mk ((by rw [hg]; exact (below_size (qW HB.out)) : w.heap.size ≤ gb451)); have n4_ := Aside0.mk ((by rw [hg]; exact (below_size (qW HB.out)) : w.heap.size ≤ gb451)); have n5_ := Aside0.mk ((by rw [hg]; exact Nat.ne_of_lt (blk_lt (qB BK450.out)) : gb450 ≠ gb451)); have n6_ := Aside0.mk ((by rw [hg]; exact Nat.ne_of_gt (blk_lt (qB BK450.out)) : gb451 ≠ gb450)); clear BK450 HB; have BK450 := n0_; have HB := n1_; have BK451 := n2_; have GW451 := n3_; have GE451 := n4_; have NB450_451 := n5_; have NB451_450 := n6_; clear n0_ n1_ n2_ n3_ n4_ n5_ n6_ hb hbox hg) | ((with_reducible refine gate_dst (N := 4) rfl ?_); refine box_event ?hg (N := 4) ?hd (cs := #[.slice none 0 0, .int .i64 0]) (t := 24) ?hr ?_; (case hd => rfl); (case hg => rfl); (case hr => first | (go_simp; done) | (go_simp; rfl)); intro gb452 hg w12 hbox hb; have n0_ := Aside0.mk (blk_below (qB BK450.out) hb); have n1_ := Aside0.mk (blk_below (qB BK451.out) hb); have n2_ := Aside0.mk (below_step (qW HB.out) hb); have n3_ := Aside0.mk (hbox); have n4_ := Aside0.mk ((by rw [hg]; exact (below_size (qW HB.out)) : w.heap.size ≤ gb452)); have n5_ := Aside0.mk ((by rw [hg]; exact (below_size (qW HB.out)) : w.heap.size ≤ gb452)); have n6_ := Aside0.mk ((by rw [hg]; exact Nat.ne_of_lt (blk_lt (qB BK450.out)) : gb450 ≠ gb452)); have n7_ := Aside0.mk ((by rw [hg]; exact Nat.ne_of_gt (blk_lt (qB BK450.out)) : gb452 ≠ gb450)); have n8_ := Aside0.mk ((by rw [hg]; exact Nat.ne_of_lt (blk_lt (qB BK451.out)) : gb451 ≠ gb452)); have n9_ := Aside0.mk ((by rw [hg]; exact Nat.ne_of_gt (blk_lt (qB BK451.out)) : gb452 ≠ gb451)); clear BK450 BK451 HB; have BK450 := n0_; have BK451 := n1_; have HB := n2_; have BK452 := n3_; have GW452 := n4_; have GE452 := n5_; have NB450_452 := n6_; have NB452_450 := n7_; have NB451_452 := n8_; have NB452_451 := n9_; clear n0_ n1_ n2_ n3_ n4_ n5_ n6_ n7_ n8_ n9_ hb hbox hg; have hnb13 := NB450_451.out; have hnc13 := NB451_450.out; have hnb14 := NB450_452.out; have hnc14 := NB452_450.out; have hcz15_0 : w12.cell? ⟨gb450, 0, none⟩ = some (.slice A0_0 l0_0.length c0_0) := (blk_cell BK450.out 0).trans rfl; have hcz15_1 : w12.cell? ⟨gb450, 1, none⟩ = some (.int .i64 a0_1) := (blk_cell BK450.out 1).trans rfl; have hfz15_0 := blk_frozen BK450.out 0; have hfz15_1 := blk_frozen BK450.out 1; have hnb16 := NB451_452.out; have hnc16 := NB452_451.out; have hcz17_0 : w12.cell? ⟨gb451, 0, none⟩ = some (.slice A1_0 l1_0.length c1_0) := (blk_cell BK451.out 0).trans rfl; have hcz17_1 : w12.cell? ⟨gb451, 1, none⟩ = some (.int .i64 a1_1) := (blk_cell BK451.out 1).trans rfl; have hfz17_0 := blk_frozen BK451.out 0; have hfz17_1 := blk_frozen BK451.out 1) | ((with_reducible refine gate_callee (f := 51) rfl ?_); refine goesL_ (some 13) rfl rfl Try.func51 (by kernel_rfl) rfl #[.agg #[.slice A0_0 l0_0.length c0_0, .int .i64 a0_1], .agg #[.slice A1_0 l1_0.length c1_0, .int .i64 a1_1]] rfl (by (try simp only [List.map_toArray, List.map_cons, List.map_nil]); first | done | rfl | (simp only [List.length_drop, List.length_take]; rfl)) ?_; (with_reducible refine (standbyref55_pair.calls k _ _ l0_0 a0_1 _ _ l1_0 a1_1 t453 _ ?side1 ?side2 ?side3 ?side4 A3.out).mono ?_); (case side1 => exact qC HR0_0.out HB.out); (case side2 => exact HC0_0.out); (case side3 => exact qC HR1_0.out HB.out); (case side4 => exact HC1_0.out); rintro e w18 ⟨rfl, hb⟩; refine ⟨_, rfl, ?_⟩; have n0_ := Aside0.mk (blk_below (qB BK450.out) hb); have n1_ := Aside0.mk (blk_below (qB BK451.out) hb); have n2_ := Aside0.mk (blk_below (qB BK452.out) hb); have n3_ := Aside0.mk (below_step (qW HB.out) hb); clear BK450 BK451 BK452 HB; have BK450 := n0_; have BK451 := n1_; have BK452 := n2_; have HB := n3_; clear n0_ n1_ n2_ n3_; (try clear hb); (try clear hb2); (try clear hk); (try clear hi); have hcz19_0 : w18.cell? ⟨gb450, 0, none⟩ = some (.slice A0_0 l0_0.length c0_0) := (blk_cell BK450.out 0).trans rfl; have hcz19_1 : w18.cell? ⟨gb450, 1, none⟩ = some (.int .i64 a0_1) := (blk_cell BK450.out 1).trans rfl; have hfz19_0 := blk_frozen BK450.out 0; have hfz19_1 := blk_frozen BK450.out 1; have hcz20_0 : w18.cell? ⟨gb451, 0, none⟩ = some (.slice A1_0 l1_0.length c1_0) := (blk_cell BK451.out 0).trans rfl; have hcz20_1 : w18.cell? ⟨gb451, 1, none⟩ = some (.int .i64 a1_1) := (blk_cell BK451.out 1).trans rfl; have hfz20_0 := blk_frozen BK451.out 0; have hfz20_1 := blk_frozen BK451.out 1))
  have n0_ := Aside0.mk (blk_drew BK450.out)
  have n1_ := Aside0.mk (blk_drew BK451.out)
  have n2_ := Aside0.mk (blk_drew BK452.out)
  have n3_ := Aside0.mk (below_drew1 HB.out)
  clear BK450 BK451 BK452 HB
  have BK450 := n0_
  have BK451 := n1_
  have BK452 := n2_
  have HB := n3_
  clear n0_ n1_ n2_ n3_
  refine start_ (n := 14) (S := fun w' => w'.cell? ⟨gb450, 0, none⟩ = some (.slice A0_0 l0_0.length c0_0) ∧ w'.cell? ⟨gb450, 1, none⟩ = some (.int .i64 a0_1) ∧ w'.cell? ⟨gb451, 0, none⟩ = some (.slice A1_0 l1_0.length c1_0) ∧ w'.cell? ⟨gb451, 1, none⟩ = some (.int .i64 a1_1)) (ds := []) #[false, false, false, false, false, false, false, false, false, false, false, false, false, false] (by kernel_rfl) rfl rfl ⟨(blk_cell BK450.out 0).trans rfl, (blk_cell BK450.out 1).trans rfl, (blk_cell BK451.out 0).trans rfl, (blk_cell BK451.out 1).trans rfl⟩ (fun hHeld => ?_); refine with_tabW standbyref55_Min.tab5 standbyref55_Min.bits5 (fun HT_ HW_ => ?_)
  generalize w18.drew = w21 at BK450 BK451 BK452 HB hHeld ⊢
  refine pS (i := 1) (N := some 26) #[false, true, false, false, false, false, false, false, false, false, false, false, false, false] rfl rfl HT_.out ?_
  refine pS (i := 2) (N := some 27) #[false, true, true, false, false, false, false, false, false, false, false, false, false, false] rfl rfl HT_.out ?_
  refine pS (i := 4) (N := some 29) #[false, true, true, false, true, false, false, false, false, false, false, false, false, false] rfl rfl HT_.out ?_
  refine pS (i := 7) (N := some 32) #[false, true, true, false, true, false, false, true, false, false, false, false, false, false] rfl rfl HT_.out ?_
  refine pS (i := 8) (N := some 33) #[false, true, true, false, true, false, false, true, true, false, false, false, false, false] rfl rfl HT_.out ?_
  refine pS (i := 10) (N := some 35) #[false, true, true, false, true, false, false, true, true, false, true, false, false, false] rfl rfl HT_.out ?_
  refine take_ (i := 0) (N := some 25) (v := ?_) (a' := ?_) #[true, true, true, false, true, false, false, true, true, false, true, false, false, false] rfl rfl (take_ofW HT_.out HW_.out (by kernel_rfl)) (fun _ _ _ h => h) (Or.inl ⟨by rfl, ?_⟩) hHeld ?_ ?_; rotate_left
  ·rintro w' ⟨s0, s1, s2, s3⟩
   go_simp
   with_reducible rfl
  rotate_left
  ·simp only [Act.put, List.setIfInBounds_toArray, List.set_cons_zero, List.set_cons_succ, i64_w, i32_w]
   rfl
  refine take_ (i := 5) (N := some 30) (v := ?_) (a' := ?_) #[true, true, true, false, true, true, false, true, true, false, true, false, false, false] rfl rfl (take_ofW HT_.out HW_.out (by kernel_rfl)) (fun _ _ _ h => h) (Or.inl ⟨by rfl, ?_⟩) hHeld ?_ ?_; rotate_left
  ·rintro w' ⟨s0, s1, s2, s3⟩
   go_simp
   with_reducible rfl
  rotate_left
  ·simp only [Act.put, List.setIfInBounds_toArray, List.set_cons_zero, List.set_cons_succ, i64_w, i32_w]
   rfl
  refine take_ (i := 6) (N := some 31) (v := ?_) (a' := ?_) #[true, true, true, false, true, true, true, true, true, false, true, false, false, false] rfl rfl (take_ofW HT_.out HW_.out (by kernel_rfl)) (fun _ _ _ h => h) (Or.inl ⟨by rfl, ?_⟩) hHeld ?_ ?_; rotate_left
  ·rintro w' ⟨s0, s1, s2, s3⟩
   go_simp
   with_reducible rfl
  rotate_left
  ·simp only [Act.put, List.setIfInBounds_toArray, List.set_cons_zero, List.set_cons_succ, i64_w, i32_w]
   rfl
  refine take_ (i := 11) (N := some 36) (v := ?_) (a' := ?_) #[true, true, true, false, true, true, true, true, true, false, true, true, false, false] rfl rfl (take_ofW HT_.out HW_.out (by kernel_rfl)) (fun _ _ _ h => h) (Or.inl ⟨by rfl, ?_⟩) hHeld ?_ ?_; rotate_left
  ·rintro w' ⟨s0, s1, s2, s3⟩
   go_simp
   with_reducible rfl
  rotate_left
  ·simp only [Act.put, List.setIfInBounds_toArray, List.set_cons_zero, List.set_cons_succ, i64_w, i32_w]
   rfl
  refine one_ (i := 3) (N := some 28) #[true, true, true, true, true, true, true, true, true, false, true, true, false, false] rfl rfl (one_of HT_.out (by kernel_rfl)) (by decide) (fun K hK => ?_)
  refine goes_ Try.func45 (by kernel_rfl) rfl #[.agg #[.slice A0_0 l0_0.length c0_0, .int .i64 a0_1], .int .i64 (wrap64 ((ji5) - 1))] (by rfl) rfl rfl (by (try simp only [List.map_toArray, List.map_cons, List.map_nil]); first | done | (simp only [hji5]; rfl) | rfl | (simp only [List.length_drop, List.length_take]; rfl)) ?_
  with_reducible refine (standbyref55_value.calls _ _ l0_0 a0_1 (wrap64 ((ji5) - 1)) t454 _ ?side1 ?side2 A6.out).mono ?_
  (case side1 => exact qC HR0_0.out HB.out)
  (case side2 => exact HC0_0.out)
  rintro e w22 ⟨rfl, hb⟩
  refine ⟨_, rfl, ?_⟩
  have n0_ := Aside0.mk (blk_below (qB BK450.out) hb)
  have n1_ := Aside0.mk (blk_below (qB BK451.out) hb)
  have n2_ := Aside0.mk (blk_below (qB BK452.out) hb)
  have n3_ := Aside0.mk (below_step (qW HB.out) hb)
  clear BK450 BK451 BK452 HB
  have BK450 := n0_
  have BK451 := n1_
  have BK452 := n2_
  have HB := n3_
  clear n0_ n1_ n2_ n3_
  (try clear hb); (try clear hb2); (try clear hk); (try clear hi)
  refine hK.out _ _ ⟨(blk_cell BK450.out 0).trans rfl, (blk_cell BK450.out 1).trans rfl, (blk_cell BK451.out 0).trans rfl, (blk_cell BK451.out 1).trans rfl⟩ (fun hHeld => ?_); clear hK K
  refine norm_ (a' := ?_) ?_ ?_; rotate_left
  ·show Act.put _ (some 28) _ = _
   simp only [Act.put, List.setIfInBounds_toArray, List.set_cons_zero, List.set_cons_succ, i64_w, i32_w]
   rfl
  refine one_ (i := 9) (N := some 34) #[true, true, true, true, true, true, true, true, true, true, true, true, false, false] rfl rfl (one_of HT_.out (by kernel_rfl)) (by decide) (fun K hK => ?_)
  refine goes_ Try.func45 (by kernel_rfl) rfl #[.agg #[.slice A1_0 l1_0.length c1_0, .int .i64 a1_1], .int .i64 (wrap64 ((ji5) - 1))] (by rfl) rfl rfl (by (try simp only [List.map_toArray, List.map_cons, List.map_nil]); first | done | (simp only [hji5]; rfl) | rfl | (simp only [List.length_drop, List.length_take]; rfl)) ?_
  with_reducible refine (standbyref55_value.calls _ _ l1_0 a1_1 (wrap64 ((ji5) - 1)) t455 _ ?side1 ?side2 A7.out).mono ?_
  (case side1 => exact qC HR1_0.out HB.out)
  (case side2 => exact HC1_0.out)
  rintro e w23 ⟨rfl, hb⟩
  refine ⟨_, rfl, ?_⟩
  have n0_ := Aside0.mk (blk_below (qB BK450.out) hb)
  have n1_ := Aside0.mk (blk_below (qB BK451.out) hb)
  have n2_ := Aside0.mk (blk_below (qB BK452.out) hb)
  have n3_ := Aside0.mk (below_step (qW HB.out) hb)
  clear BK450 BK451 BK452 HB
  have BK450 := n0_
  have BK451 := n1_
  have BK452 := n2_
  have HB := n3_
  clear n0_ n1_ n2_ n3_
  (try clear hb); (try clear hb2); (try clear hk); (try clear hi)
  refine hK.out _ _ ⟨(blk_cell BK450.out 0).trans rfl, (blk_cell BK450.out 1).trans rfl, (blk_cell BK451.out 0).trans rfl, (blk_cell BK451.out 1).trans rfl⟩ (fun hHeld => ?_); clear hK K
  refine norm_ (a' := ?_) ?_ ?_; rotate_left
  ·show Act.put _ (some 34) _ = _
   simp only [Act.put, List.setIfInBounds_toArray, List.set_cons_zero, List.set_cons_succ, i64_w, i32_w]
   rfl
  refine one_ (i := 12) (N := some 37) #[true, true, true, true, true, true, true, true, true, true, true, true, true, false] rfl rfl (one_of HT_.out (by kernel_rfl)) (by decide) (fun K hK => ?_)
  refine goes_ Try.func52 (by kernel_rfl) rfl #[.int .i64 t454, .int .i64 a0_1, .int .i64 t455, .int .i64 a1_1] (by rfl) rfl rfl (by (try simp only [List.map_toArray, List.map_cons, List.map_nil]); first | done | rfl | (simp only [List.length_drop, List.length_take]; rfl)) ?_
  with_reducible refine (standbyref55_crossing.calls t454 a0_1 t455 a1_1 t456 _ A8.out).mono ?_
  rintro e w' ⟨rfl, ⟨nd, rfl⟩⟩
  refine ⟨_, rfl, ?_⟩
  refine hK.out _ _ ⟨(blk_cell BK450.out 0).trans rfl, (blk_cell BK450.out 1).trans rfl, (blk_cell BK451.out 0).trans rfl, (blk_cell BK451.out 1).trans rfl⟩ (fun hHeld => ?_); clear hK K
  refine norm_ (a' := ?_) ?_ ?_; rotate_left
  ·show Act.put _ (some 37) _ = _
   simp only [Act.put, List.setIfInBounds_toArray, List.set_cons_zero, List.set_cons_succ, i64_w, i32_w]
   rfl
  refine pS (i := 13) (N := some 8) #[true, true, true, true, true, true, true, true, true, true, true, true, true, true] rfl rfl HT_.out ?_
  refine done_ (done_of HT_.out (by kernel_rfl)) ?_
  have hcz24_0 : w23.cell? ⟨gb452, 0, none⟩ = some (.slice none 0 0) := (blk_cell BK452.out 0).trans rfl
  have hcz24_1 : w23.cell? ⟨gb452, 1, none⟩ = some (.int .i64 0) := (blk_cell BK452.out 1).trans rfl
  have hfz24_0 := blk_frozen BK452.out 0
  have hfz24_1 := blk_frozen BK452.out 1
  try go_wp2
  refine bodyPost_ret (results_ct rfl _ _ gb452 24 #[.slice none 0 0, .int .i64 0] (0, 0) _ rfl (by (with_reducible repeat (first | refine blk_drewN ?_ _ | refine blk_drew ?_ | refine blk_alloc ?_ _)); refine blk_put (cs := #[.slice none 0 0, .int .i64 0]) ?_ 1 _ rfl; (with_reducible repeat (first | refine blk_drewN ?_ _ | refine blk_drew ?_ | refine blk_alloc ?_ _)); refine blk_put (cs := #[.slice none 0 0, .int .i64 0]) ?_ 0 _ rfl; exact qB BK452.out) Try.underlying24 rfl (by kernel_rfl)) rfl ?_
  exact ⟨_, by first | rfl | (simp [errW_none, errW_some] <;> rfl) | (simp only [← hji5]; first | rfl | (simp [errW_none, errW_some] <;> rfl)) | (simp [*, errW_none, errW_some] <;> rfl), by first | exact Kd.R_nil _ _ _ _ _ | exact Kd.N_nil _ _ _ _ _ | exact Kd.V_nil _ _ _ _ _ | exact Kd.Q_nil _ _ _ _ _ | exact Kd.S_nil _ _ _ _ _, by repeat (first | (with_reducible first | exact HB.out | apply below_alloc | apply pw_below_drewN | apply below_drew1 | refine below_set ?_ GE450.out | refine below_set ?_ GE451.out | refine below_set ?_ GE452.out) | exact HB.out)⟩
 ·rw [if_neg c9] at H
  have c9b0 : decide (4096 < (wrap64 ((ji5) + t456))) = false := decide_eq_false c9
  clear c9
  have H' := Aside0.mk H
  clear H
  go_enter Try.func31, Try.ntmps31
  try go_wp2_with (first | ((with_reducible refine gate_dst (N := 2) rfl ?_); refine box_event ?hg (N := 2) ?hd (cs := #[.slice A0_0 l0_0.length c0_0, .int .i64 a0_1]) (t := 24) ?hr ?_; (case hd => rfl); (case hg => rfl); (case hr => first | (go_simp; done) | (go_simp; rfl)); intro gb450 hg w25 hbox hb; have n0_ := Aside0.mk (below_step (qW HB.out) hb); have n1_ := Aside0.mk (hbox); have n2_ := Aside0.mk ((by rw [hg]; exact (below_size (qW HB.out)) : w.heap.size ≤ gb450)); have n3_ := Aside0.mk ((by rw [hg]; exact (below_size (qW HB.out)) : w.heap.size ≤ gb450)); clear HB; have HB := n0_; have BK450 := n1_; have GW450 := n2_; have GE450 := n3_; clear n0_ n1_ n2_ n3_ hb hbox hg) | ((with_reducible refine gate_dst (N := 3) rfl ?_); refine box_event ?hg (N := 3) ?hd (cs := #[.slice A1_0 l1_0.length c1_0, .int .i64 a1_1]) (t := 24) ?hr ?_; (case hd => rfl); (case hg => rfl); (case hr => first | (go_simp; done) | (go_simp; rfl)); intro gb451 hg w26 hbox hb; have n0_ := Aside0.mk (blk_below (qB BK450.out) hb); have n1_ := Aside0.mk (below_step (qW HB.out) hb); have n2_ := Aside0.mk (hbox); have n3_ := Aside0.mk ((by rw [hg]; exact (below_size (qW HB.out)) : w.heap.size ≤ gb451)); have n4_ := Aside0.mk ((by rw [hg]; exact (below_size (qW HB.out)) : w.heap.size ≤ gb451)); have n5_ := Aside0.mk ((by rw [hg]; exact Nat.ne_of_lt (blk_lt (qB BK450.out)) : gb450 ≠ gb451)); have n6_ := Aside0.mk ((by rw [hg]; exact Nat.ne_of_gt (blk_lt (qB BK450.out)) : gb451 ≠ gb450)); clear BK450 HB; have BK450 := n0_; have HB := n1_; have BK451 := n2_; have GW451 := n3_; have GE451 := n4_; have NB450_451 := n5_; have NB451_450 := n6_; clear n0_ n1_ n2_ n3_ n4_ n5_ n6_ hb hbox hg) | ((with_reducible refine gate_dst (N := 4) rfl ?_); refine box_event ?hg (N := 4) ?hd (cs := #[.slice none 0 0, .int .i64 0]) (t := 24) ?hr ?_; (case hd => rfl); (case hg => rfl); (case hr => first | (go_simp; done) | (go_simp; rfl)); intro gb452 hg w27 hbox hb; have n0_ := Aside0.mk (blk_below (qB BK450.out) hb); have n1_ := Aside0.mk (blk_below (qB BK451.out) hb); have n2_ := Aside0.mk (below_step (qW HB.out) hb); have n3_ := Aside0.mk (hbox); have n4_ := Aside0.mk ((by rw [hg]; exact (below_size (qW HB.out)) : w.heap.size ≤ gb452)); have n5_ := Aside0.mk ((by rw [hg]; exact (below_size (qW HB.out)) : w.heap.size ≤ gb452)); have n6_ := Aside0.mk ((by rw [hg]; exact Nat.ne_of_lt (blk_lt (qB BK450.out)) : gb450 ≠ gb452)); have n7_ := Aside0.mk ((by rw [hg]; exact Nat.ne_of_gt (blk_lt (qB BK450.out)) : gb452 ≠ gb450)); have n8_ := Aside0.mk ((by rw [hg]; exact Nat.ne_of_lt (blk_lt (qB BK451.out)) : gb451 ≠ gb452)); have n9_ := Aside0.mk ((by rw [hg]; exact Nat.ne_of_gt (blk_lt (qB BK451.out)) : gb452 ≠ gb451)); clear BK450 BK451 HB; have BK450 := n0_; have BK451 := n1_; have HB := n2_; have BK452 := n3_; have GW452 := n4_; have GE452 := n5_; have NB450_452 := n6_; have NB452_450 := n7_; have NB451_452 := n8_; have NB452_451 := n9_; clear n0_ n1_ n2_ n3_ n4_ n5_ n6_ n7_ n8_ n9_ hb hbox hg; have hnb28 := NB450_451.out; have hnc28 := NB451_450.out; have hnb29 := NB450_452.out; have hnc29 := NB452_450.out; have hcz30_0 : w27.cell? ⟨gb450, 0, none⟩ = some (.slice A0_0 l0_0.length c0_0) := (blk_cell BK450.out 0).trans rfl; have hcz30_1 : w27.cell? ⟨gb450, 1, none⟩ = some (.int .i64 a0_1) := (blk_cell BK450.out 1).trans rfl; have hfz30_0 := blk_frozen BK450.out 0; have hfz30_1 := blk_frozen BK450.out 1; have hnb31 := NB451_452.out; have hnc31 := NB452_451.out; have hcz32_0 : w27.cell? ⟨gb451, 0, none⟩ = some (.slice A1_0 l1_0.length c1_0) := (blk_cell BK451.out 0).trans rfl; have hcz32_1 : w27.cell? ⟨gb451, 1, none⟩ = some (.int .i64 a1_1) := (blk_cell BK451.out 1).trans rfl; have hfz32_0 := blk_frozen BK451.out 0; have hfz32_1 := blk_frozen BK451.out 1) | ((with_reducible refine gate_callee (f := 51) rfl ?_); refine goesL_ (some 13) rfl rfl Try.func51 (by kernel_rfl) rfl #[.agg #[.slice A0_0 l0_0.length c0_0, .int .i64 a0_1], .agg #[.slice A1_0 l1_0.length c1_0, .int .i64 a1_1]] rfl (by (try simp only [List.map_toArray, List.map_cons, List.map_nil]); first | done | rfl | (simp only [List.length_drop, List.length_take]; rfl)) ?_; (with_reducible refine (standbyref55_pair.calls k _ _ l0_0 a0_1 _ _ l1_0 a1_1 t453 _ ?side1 ?side2 ?side3 ?side4 A3.out).mono ?_); (case side1 => exact qC HR0_0.out HB.out); (case side2 => exact HC0_0.out); (case side3 => exact qC HR1_0.out HB.out); (case side4 => exact HC1_0.out); rintro e w33 ⟨rfl, hb⟩; refine ⟨_, rfl, ?_⟩; have n0_ := Aside0.mk (blk_below (qB BK450.out) hb); have n1_ := Aside0.mk (blk_below (qB BK451.out) hb); have n2_ := Aside0.mk (blk_below (qB BK452.out) hb); have n3_ := Aside0.mk (below_step (qW HB.out) hb); clear BK450 BK451 BK452 HB; have BK450 := n0_; have BK451 := n1_; have BK452 := n2_; have HB := n3_; clear n0_ n1_ n2_ n3_; (try clear hb); (try clear hb2); (try clear hk); (try clear hi); have hcz34_0 : w33.cell? ⟨gb450, 0, none⟩ = some (.slice A0_0 l0_0.length c0_0) := (blk_cell BK450.out 0).trans rfl; have hcz34_1 : w33.cell? ⟨gb450, 1, none⟩ = some (.int .i64 a0_1) := (blk_cell BK450.out 1).trans rfl; have hfz34_0 := blk_frozen BK450.out 0; have hfz34_1 := blk_frozen BK450.out 1; have hcz35_0 : w33.cell? ⟨gb451, 0, none⟩ = some (.slice A1_0 l1_0.length c1_0) := (blk_cell BK451.out 0).trans rfl; have hcz35_1 : w33.cell? ⟨gb451, 1, none⟩ = some (.int .i64 a1_1) := (blk_cell BK451.out 1).trans rfl; have hfz35_0 := blk_frozen BK451.out 0; have hfz35_1 := blk_frozen BK451.out 1))
  have n0_ := Aside0.mk (blk_drew BK450.out)
  have n1_ := Aside0.mk (blk_drew BK451.out)
  have n2_ := Aside0.mk (blk_drew BK452.out)
  have n3_ := Aside0.mk (below_drew1 HB.out)
  clear BK450 BK451 BK452 HB
  have BK450 := n0_
  have BK451 := n1_
  have BK452 := n2_
  have HB := n3_
  clear n0_ n1_ n2_ n3_
  refine start_ (n := 14) (S := fun w' => w'.cell? ⟨gb450, 0, none⟩ = some (.slice A0_0 l0_0.length c0_0) ∧ w'.cell? ⟨gb450, 1, none⟩ = some (.int .i64 a0_1) ∧ w'.cell? ⟨gb451, 0, none⟩ = some (.slice A1_0 l1_0.length c1_0) ∧ w'.cell? ⟨gb451, 1, none⟩ = some (.int .i64 a1_1)) (ds := []) #[false, false, false, false, false, false, false, false, false, false, false, false, false, false] (by kernel_rfl) rfl rfl ⟨(blk_cell BK450.out 0).trans rfl, (blk_cell BK450.out 1).trans rfl, (blk_cell BK451.out 0).trans rfl, (blk_cell BK451.out 1).trans rfl⟩ (fun hHeld => ?_); refine with_tabW standbyref55_Min.tab5 standbyref55_Min.bits5 (fun HT_ HW_ => ?_)
  generalize w33.drew = w36 at BK450 BK451 BK452 HB hHeld ⊢
  refine pS (i := 1) (N := some 26) #[false, true, false, false, false, false, false, false, false, false, false, false, false, false] rfl rfl HT_.out ?_
  refine pS (i := 2) (N := some 27) #[false, true, true, false, false, false, false, false, false, false, false, false, false, false] rfl rfl HT_.out ?_
  refine pS (i := 4) (N := some 29) #[false, true, true, false, true, false, false, false, false, false, false, false, false, false] rfl rfl HT_.out ?_
  refine pS (i := 7) (N := some 32) #[false, true, true, false, true, false, false, true, false, false, false, false, false, false] rfl rfl HT_.out ?_
  refine pS (i := 8) (N := some 33) #[false, true, true, false, true, false, false, true, true, false, false, false, false, false] rfl rfl HT_.out ?_
  refine pS (i := 10) (N := some 35) #[false, true, true, false, true, false, false, true, true, false, true, false, false, false] rfl rfl HT_.out ?_
  refine take_ (i := 0) (N := some 25) (v := ?_) (a' := ?_) #[true, true, true, false, true, false, false, true, true, false, true, false, false, false] rfl rfl (take_ofW HT_.out HW_.out (by kernel_rfl)) (fun _ _ _ h => h) (Or.inl ⟨by rfl, ?_⟩) hHeld ?_ ?_; rotate_left
  ·rintro w' ⟨s0, s1, s2, s3⟩
   go_simp
   with_reducible rfl
  rotate_left
  ·simp only [Act.put, List.setIfInBounds_toArray, List.set_cons_zero, List.set_cons_succ, i64_w, i32_w]
   rfl
  refine take_ (i := 5) (N := some 30) (v := ?_) (a' := ?_) #[true, true, true, false, true, true, false, true, true, false, true, false, false, false] rfl rfl (take_ofW HT_.out HW_.out (by kernel_rfl)) (fun _ _ _ h => h) (Or.inl ⟨by rfl, ?_⟩) hHeld ?_ ?_; rotate_left
  ·rintro w' ⟨s0, s1, s2, s3⟩
   go_simp
   with_reducible rfl
  rotate_left
  ·simp only [Act.put, List.setIfInBounds_toArray, List.set_cons_zero, List.set_cons_succ, i64_w, i32_w]
   rfl
  refine take_ (i := 6) (N := some 31) (v := ?_) (a' := ?_) #[true, true, true, false, true, true, true, true, true, false, true, false, false, false] rfl rfl (take_ofW HT_.out HW_.out (by kernel_rfl)) (fun _ _ _ h => h) (Or.inl ⟨by rfl, ?_⟩) hHeld ?_ ?_; rotate_left
  ·rintro w' ⟨s0, s1, s2, s3⟩
   go_simp
   with_reducible rfl
  rotate_left
  ·simp only [Act.put, List.setIfInBounds_toArray, List.set_cons_zero, List.set_cons_succ, i64_w, i32_w]
   rfl
  refine take_ (i := 11) (N := some 36) (v := ?_) (a' := ?_) #[true, true, true, false, true, true, true, true, true, false, true, true, false, false] rfl rfl (take_ofW HT_.out HW_.out (by kernel_rfl)) (fun _ _ _ h => h) (Or.inl ⟨by rfl, ?_⟩) hHeld ?_ ?_; rotate_left
  ·rintro w' ⟨s0, s1, s2, s3⟩
   go_simp
   with_reducible rfl
  rotate_left
  ·simp only [Act.put, List.setIfInBounds_toArray, List.set_cons_zero, List.set_cons_succ, i64_w, i32_w]
   rfl
  refine one_ (i := 3) (N := some 28) #[true, true, true, true, true, true, true, true, true, false, true, true, false, false] rfl rfl (one_of HT_.out (by kernel_rfl)) (by decide) (fun K hK => ?_)
  refine goes_ Try.func45 (by kernel_rfl) rfl #[.agg #[.slice A0_0 l0_0.length c0_0, .int .i64 a0_1], .int .i64 (wrap64 ((ji5) - 1))] (by rfl) rfl rfl (by (try simp only [List.map_toArray, List.map_cons, List.map_nil]); first | done | (simp only [hji5]; rfl) | rfl | (simp only [List.length_drop, List.length_take]; rfl)) ?_
  with_reducible refine (standbyref55_value.calls _ _ l0_0 a0_1 (wrap64 ((ji5) - 1)) t454 _ ?side1 ?side2 A6.out).mono ?_
  (case side1 => exact qC HR0_0.out HB.out)
  (case side2 => exact HC0_0.out)
  rintro e w37 ⟨rfl, hb⟩
  refine ⟨_, rfl, ?_⟩
  have n0_ := Aside0.mk (blk_below (qB BK450.out) hb)
  have n1_ := Aside0.mk (blk_below (qB BK451.out) hb)
  have n2_ := Aside0.mk (blk_below (qB BK452.out) hb)
  have n3_ := Aside0.mk (below_step (qW HB.out) hb)
  clear BK450 BK451 BK452 HB
  have BK450 := n0_
  have BK451 := n1_
  have BK452 := n2_
  have HB := n3_
  clear n0_ n1_ n2_ n3_
  (try clear hb); (try clear hb2); (try clear hk); (try clear hi)
  refine hK.out _ _ ⟨(blk_cell BK450.out 0).trans rfl, (blk_cell BK450.out 1).trans rfl, (blk_cell BK451.out 0).trans rfl, (blk_cell BK451.out 1).trans rfl⟩ (fun hHeld => ?_); clear hK K
  refine norm_ (a' := ?_) ?_ ?_; rotate_left
  ·show Act.put _ (some 28) _ = _
   simp only [Act.put, List.setIfInBounds_toArray, List.set_cons_zero, List.set_cons_succ, i64_w, i32_w]
   rfl
  refine one_ (i := 9) (N := some 34) #[true, true, true, true, true, true, true, true, true, true, true, true, false, false] rfl rfl (one_of HT_.out (by kernel_rfl)) (by decide) (fun K hK => ?_)
  refine goes_ Try.func45 (by kernel_rfl) rfl #[.agg #[.slice A1_0 l1_0.length c1_0, .int .i64 a1_1], .int .i64 (wrap64 ((ji5) - 1))] (by rfl) rfl rfl (by (try simp only [List.map_toArray, List.map_cons, List.map_nil]); first | done | (simp only [hji5]; rfl) | rfl | (simp only [List.length_drop, List.length_take]; rfl)) ?_
  with_reducible refine (standbyref55_value.calls _ _ l1_0 a1_1 (wrap64 ((ji5) - 1)) t455 _ ?side1 ?side2 A7.out).mono ?_
  (case side1 => exact qC HR1_0.out HB.out)
  (case side2 => exact HC1_0.out)
  rintro e w38 ⟨rfl, hb⟩
  refine ⟨_, rfl, ?_⟩
  have n0_ := Aside0.mk (blk_below (qB BK450.out) hb)
  have n1_ := Aside0.mk (blk_below (qB BK451.out) hb)
  have n2_ := Aside0.mk (blk_below (qB BK452.out) hb)
  have n3_ := Aside0.mk (below_step (qW HB.out) hb)
  clear BK450 BK451 BK452 HB
  have BK450 := n0_
  have BK451 := n1_
  have BK452 := n2_
  have HB := n3_
  clear n0_ n1_ n2_ n3_
  (try clear hb); (try clear hb2); (try clear hk); (try clear hi)
  refine hK.out _ _ ⟨(blk_cell BK450.out 0).trans rfl, (blk_cell BK450.out 1).trans rfl, (blk_cell BK451.out 0).trans rfl, (blk_cell BK451.out 1).trans rfl⟩ (fun hHeld => ?_); clear hK K
  refine norm_ (a' := ?_) ?_ ?_; rotate_left
  ·show Act.put _ (some 34) _ = _
   simp only [Act.put, List.setIfInBounds_toArray, List.set_cons_zero, List.set_cons_succ, i64_w, i32_w]
   rfl
  refine one_ (i := 12) (N := some 37) #[true, true, true, true, true, true, true, true, true, true, true, true, true, false] rfl rfl (one_of HT_.out (by kernel_rfl)) (by decide) (fun K hK => ?_)
  refine goes_ Try.func52 (by kernel_rfl) rfl #[.int .i64 t454, .int .i64 a0_1, .int .i64 t455, .int .i64 a1_1] (by rfl) rfl rfl (by (try simp only [List.map_toArray, List.map_cons, List.map_nil]); first | done | rfl | (simp only [List.length_drop, List.length_take]; rfl)) ?_
  with_reducible refine (standbyref55_crossing.calls t454 a0_1 t455 a1_1 t456 _ A8.out).mono ?_
  rintro e w' ⟨rfl, ⟨nd, rfl⟩⟩
  refine ⟨_, rfl, ?_⟩
  refine hK.out _ _ ⟨(blk_cell BK450.out 0).trans rfl, (blk_cell BK450.out 1).trans rfl, (blk_cell BK451.out 0).trans rfl, (blk_cell BK451.out 1).trans rfl⟩ (fun hHeld => ?_); clear hK K
  refine norm_ (a' := ?_) ?_ ?_; rotate_left
  ·show Act.put _ (some 37) _ = _
   simp only [Act.put, List.setIfInBounds_toArray, List.set_cons_zero, List.set_cons_succ, i64_w, i32_w]
   rfl
  refine pS (i := 13) (N := some 8) #[true, true, true, true, true, true, true, true, true, true, true, true, true, true] rfl rfl HT_.out ?_
  refine done_ (done_of HT_.out (by kernel_rfl)) ?_
  try go_wp2
  go_loopg [9, 10] k (fun kq v9 v10 w' => ∃ (x9_1 : List Int) (x10_1 : Int), v10 = .int .i64 x10_1 ∧ Aside0 (standbyref55_Min.l0 kq ji5 t456 x9_1 x10_1 l0_0 a0_1 l1_0 a1_1 = some (r1, r2, r3)) ∧ Aside0 (kq ≤ k) ∧ Aside0 (Kd.R (Kd.int .i64) 3 w' w.heap.size (fun _ => True) v9 x9_1) ∧ Aside0 (w'.heap[gb450]? = some (.cells #[(.slice A0_0 l0_0.length c0_0), .int .i64 a0_1] 24 (0, 0))) ∧ Aside0 (w'.heap[gb451]? = some (.cells #[(.slice A1_0 l1_0.length c1_0), .int .i64 a1_1] 24 (0, 0))) ∧ Aside0 (w'.heap[gb452]? = some (.cells #[(.slice none 0 0), .int .i64 0] 24 (0, 0))) ∧ Aside0 (Below w.heap.size w w'))
  case atStart => exact ⟨(([] : List Int)), (0), (by first | rfl | (simp; done) | (simp [*]; done)), H', ⟨Nat.le_refl _⟩, ⟨by first | exact Kd.R_nil _ _ _ _ _ | exact Kd.N_nil _ _ _ _ _ | exact Kd.V_nil _ _ _ _ _ | exact Kd.Q_nil _ _ _ _ _ | exact Kd.S_nil _ _ _ _ _⟩, ⟨by exact qB BK450.out⟩, ⟨by exact qB BK451.out⟩, ⟨by exact qB BK452.out⟩, ⟨by repeat (first | (with_reducible first | exact HB.out | apply below_alloc | apply pw_below_drewN | apply below_drew1 | refine below_set ?_ GE450.out | refine below_set ?_ GE451.out | refine below_set ?_ GE452.out) | exact HB.out)⟩⟩
  case round =>
   clear H'
   try clear c1
   try clear c2
   try clear p2
   try clear c3
   try clear c4
   try clear c4b0
   try clear c4b1
   try clear c5
   try clear p6
   try clear c9
   try clear c9b0
   try clear c13
   try clear c14
   try clear c16
   try clear c28
   try clear c29
   try clear c31
   try clear hcz15_0
   try clear hcz15_1
   try clear hcz17_0
   try clear hcz17_1
   try clear hcz19_0
   try clear hcz19_1
   try clear hcz20_0
   try clear hcz20_1
   try clear hcz24_0
   try clear hcz24_1
   try clear hcz30_0
   try clear hcz30_1
   try clear hcz32_0
   try clear hcz32_1
   try clear hcz34_0
   try clear hcz34_1
   try clear hcz35_0
   try clear hcz35_1
   try clear hfz15_0
   try clear hfz15_1
   try clear hfz17_0
   try clear hfz17_1
   try clear hfz19_0
   try clear hfz19_1
   try clear hfz20_0
   try clear hfz20_1
   try clear hfz24_0
   try clear hfz24_1
   try clear hfz30_0
   try clear hfz30_1
   try clear hfz32_0
   try clear hfz32_1
   try clear hfz34_0
   try clear hfz34_1
   try clear hfz35_0
   try clear hfz35_1
   obtain ⟨x9_1, x10_1, rfl, HA, HK1, HO_9, BK450, BK451, BK452, HB⟩ := hrel
   cases gk with
   | zero => exact absurd HA.out (by simp [standbyref55_Min.l0])
   | succ k1 =>
    have H := HA.out
    clear HA
    simp only [standbyref55_Min.l0] at H
    by_cases c39 : x10_1 < (wrap64 (ji5 + t456))
    case neg =>
     rw [if_neg c39] at H
     have c39b0 : decide (x10_1 < (wrap64 (ji5 + t456))) = false := decide_eq_false c39
     clear c39
     obtain ⟨ji48, hji48⟩ : ∃ j_ : Int, (mn a0_1 a1_1) = j_ := ⟨_, rfl⟩
     replace H : ((standbyref55_finish.f k1 x9_1 (ji48)).bind fun bt462 => (some (bt462.1, bt462.2.1, bt462.2.2))) = some (r1, r2, r3) := by first | (rw [hji48] at H; exact H) | (simp only [hji48] at H ⊢; exact H)
     have hji48_ : (if a1_1 < a0_1 then a1_1 else a0_1) = ji48 := hji48
     replace H := Option.bind_eq_some_iff.mp H
     obtain ⟨⟨t462, t465, t466⟩, A490, H⟩ := H
     replace H : (some (t462, t465, t466)) = some (r1, r2, r3) := H
     have A49 := Aside0.mk A490
     clear A490
     simp only [Option.some.injEq, Prod.mk.injEq] at H
     obtain ⟨rfl, rfl, rfl⟩ := H
     have hnb50 := NB450_451.out
     have hnc50 := NB451_450.out
     have hnb51 := NB450_452.out
     have hnc51 := NB452_450.out
     have hcz52_0 : wr.cell? ⟨gb450, 0, none⟩ = some (.slice A0_0 l0_0.length c0_0) := (blk_cell BK450.out 0).trans rfl
     have hcz52_1 : wr.cell? ⟨gb450, 1, none⟩ = some (.int .i64 a0_1) := (blk_cell BK450.out 1).trans rfl
     have hfz52_0 := blk_frozen BK450.out 0
     have hfz52_1 := blk_frozen BK450.out 1
     have hnb53 := NB451_452.out
     have hnc53 := NB452_451.out
     have hcz54_0 : wr.cell? ⟨gb451, 0, none⟩ = some (.slice A1_0 l1_0.length c1_0) := (blk_cell BK451.out 0).trans rfl
     have hcz54_1 : wr.cell? ⟨gb451, 1, none⟩ = some (.int .i64 a1_1) := (blk_cell BK451.out 1).trans rfl
     have hfz54_0 := blk_frozen BK451.out 0
     have hfz54_1 := blk_frozen BK451.out 1
     obtain ⟨Ao55, co55, eo55⟩ := Kd.R_slice HO_9.out
     subst eo55
     go_wp2_with (first | ((with_reducible refine gate_callee (f := 54) rfl ?_); refine goesL_ (some 66) rfl rfl Try.func54 (by kernel_rfl) rfl #[.slice Ao55 x9_1.length co55, .int .i64 ji48] rfl (by (try simp only [List.map_toArray, List.map_cons, List.map_nil]); first | done | (simp only [hji48]; rfl) | rfl | (simp only [List.length_drop, List.length_take]; rfl)) ?_; (with_reducible refine (standbyref55_finish.calls k1 (fun k_ => some k_ = (.slice Ao55 x9_1.length co55 : Value).ownBlock) (.slice Ao55 x9_1.length co55) x9_1 ji48 t462 t465 t466 w _ ?side1 ?side2 A49.out).mono ?_); (case side1 => repeat (first | (with_reducible first | exact HB.out | apply below_alloc | apply pw_below_drewN | apply below_drew1 | refine below_set ?_ GE450.out | refine below_set ?_ GE451.out | refine below_set ?_ GE452.out) | exact HB.out)); (case side2 => exact Kd.R_tight rfl HO_9.out); rintro e w56 ⟨v463, rfl, ho0, hb, hkp⟩; refine ⟨_, rfl, ?_⟩; have n0_ := Aside0.mk (blk_kept (qB BK450.out) hkp (fun hs_ => (fun e_ => (Kd.R_ne HO_9.out BK450.out (by decide)) e_) hs_)); have n1_ := Aside0.mk (blk_kept (qB BK451.out) hkp (fun hs_ => (fun e_ => (Kd.R_ne HO_9.out BK451.out (by decide)) e_) hs_)); have n2_ := Aside0.mk (blk_kept (qB BK452.out) hkp (fun hs_ => (fun e_ => (Kd.R_ne HO_9.out BK452.out (by decide)) e_) hs_)); have n3_ := Aside0.mk (Kd.R_mono (ok' := fun k_ => True) ho0 (fun k_ hk_ => trivial)); have n4_ := Aside0.mk (hb); clear BK450 BK451 BK452 HB HO_9; have BK450 := n0_; have BK451 := n1_; have BK452 := n2_; have HO464 := n3_; have HB := n4_; clear n0_ n1_ n2_ n3_ n4_; (try clear hb); (try clear hkp); (try clear ho0); obtain ⟨Ao57, co57, eo57⟩ := Kd.R_slice HO464.out; subst eo57; have hcz58_0 : w56.cell? ⟨gb452, 0, none⟩ = some (.slice none 0 0) := (blk_cell BK452.out 0).trans rfl; have hcz58_1 : w56.cell? ⟨gb452, 1, none⟩ = some (.int .i64 0) := (blk_cell BK452.out 1).trans rfl; have hfz58_0 := blk_frozen BK452.out 0; have hfz58_1 := blk_frozen BK452.out 1))
     refine bodyPost_ret (results_ct rfl _ _ gb452 24 #[.slice Ao57 t462.length co57, .int .i64 t465] (0, 0) _ rfl (by (with_reducible repeat (first | refine blk_drewN ?_ _ | refine blk_drew ?_ | refine blk_alloc ?_ _)); refine blk_put (cs := #[.slice Ao57 t462.length co57, .int .i64 0]) ?_ 1 _ rfl; (with_reducible repeat (first | refine blk_drewN ?_ _ | refine blk_drew ?_ | refine blk_alloc ?_ _)); refine blk_put (cs := #[.slice none 0 0, .int .i64 0]) ?_ 0 _ rfl; exact qB BK452.out) Try.underlying24 rfl (by kernel_rfl)) rfl ?_
     exact ⟨_, by first | rfl | (simp [errW_none, errW_some] <;> rfl) | (simp only [← hji5, ← hji48]; first | rfl | (simp [errW_none, errW_some] <;> rfl)) | (simp [*, errW_none, errW_some] <;> rfl), by exact qR (Kd.R_mono (Kd.R_far (p := ⟨gb452, 1, none⟩) (Kd.R_far (p := ⟨gb452, 0, none⟩) (Kd.R_types HO464.out BK452.out (by decide)) (fun _ hk => hk.2) (.slice Ao57 t462.length co57)) (fun _ hk => hk.2) (.int .i64 t465)) (fun _ hk => trivial)), by repeat (first | (with_reducible first | exact HB.out | apply below_alloc | apply pw_below_drewN | apply below_drew1 | refine below_set ?_ GE450.out | refine below_set ?_ GE451.out | refine below_set ?_ GE452.out) | exact HB.out)⟩
    rw [if_pos c39] at H
    have c39b0 : decide (x10_1 < (wrap64 (ji5 + t456))) = true := decide_eq_true c39
    clear c39
    replace H := Option.bind_eq_some_iff.mp H
    obtain ⟨t457, A400, H⟩ := H
    replace H : ((standbyref55_value.f l1_0 a1_1 x10_1).bind fun t458 => (if x9_1.length < 17592186044416 then (standbyref55_Min.l0 k1 ji5 t456 (x9_1 ++ [mn t457 t458]) (wrap64 (x10_1 + 1)) l0_0 a0_1 l1_0 a1_1) else (none))) = some (r1, r2, r3) := H
    have A40 := Aside0.mk A400
    clear A400
    replace H := Option.bind_eq_some_iff.mp H
    obtain ⟨t458, A410, H⟩ := H
    replace H : (if x9_1.length < 17592186044416 then (standbyref55_Min.l0 k1 ji5 t456 (x9_1 ++ [mn t457 t458]) (wrap64 (x10_1 + 1)) l0_0 a0_1 l1_0 a1_1) else (none)) = some (r1, r2, r3) := H
    have A41 := Aside0.mk A410
    clear A410
    obtain ⟨ji42, hji42⟩ : ∃ j_ : Int, (mn t457 t458) = j_ := ⟨_, rfl⟩
    replace H : (if x9_1.length < 17592186044416 then (standbyref55_Min.l0 k1 ji5 t456 (x9_1 ++ [ji42]) (wrap64 (x10_1 + 1)) l0_0 a0_1 l1_0 a1_1) else (none)) = some (r1, r2, r3) := by first | (rw [hji42] at H; exact H) | (simp only [hji42] at H ⊢; exact H)
    (try rw [hji42] at A40)
    (try rw [hji42] at A41)
    have hji42_ : (if t458 < t457 then t458 else t457) = ji42 := hji42
    by_cases c43 : x9_1.length < 17592186044416
    case neg =>
     rw [if_neg c43] at H
     exact absurd H (by simp)
    rw [if_pos c43] at H
    have LMc43 := Aside0.mk c43
    clear c43
    obtain ⟨y459, hy459⟩ : ∃ y_ : List Int, y_ = (x9_1 ++ [ji42]) := ⟨_, rfl⟩
    replace H : (standbyref55_Min.l0 k1 ji5 t456 y459 (wrap64 (x10_1 + 1)) l0_0 a0_1 l1_0 a1_1) = some (r1, r2, r3) := by first | (rw [hy459]; with_reducible exact H) | (have H2_ := (Option.bind_some _ _).symm.trans H; rw [hy459]; with_reducible exact H2_) | (have H2_ := (Option.bind_some _ _).symm.trans H; with_reducible exact H2_) | with_reducible exact H | (rw [hy459]; exact H) | exact H
    have Ny459 := Aside0.mk hy459
    clear hy459
    have H' := Aside0.mk H
    clear H
    try go_wp2
    have n0_ := Aside0.mk (Kd.R_drew HO_9.out)
    have n1_ := Aside0.mk (blk_drew BK450.out)
    have n2_ := Aside0.mk (blk_drew BK451.out)
    have n3_ := Aside0.mk (blk_drew BK452.out)
    have n4_ := Aside0.mk (below_drew1 HB.out)
    clear HO_9 BK450 BK451 BK452 HB
    have HO_9 := n0_
    have BK450 := n1_
    have BK451 := n2_
    have BK452 := n3_
    have HB := n4_
    clear n0_ n1_ n2_ n3_ n4_
    refine start_ (n := 11) (S := fun w' => w'.cell? ⟨gb450, 0, none⟩ = some (.slice A0_0 l0_0.length c0_0) ∧ w'.cell? ⟨gb450, 1, none⟩ = some (.int .i64 a0_1) ∧ w'.cell? ⟨gb451, 0, none⟩ = some (.slice A1_0 l1_0.length c1_0) ∧ w'.cell? ⟨gb451, 1, none⟩ = some (.int .i64 a1_1)) (ds := []) #[false, false, false, false, false, false, false, false, false, false, false] (by kernel_rfl) rfl rfl ⟨(blk_cell BK450.out 0).trans rfl, (blk_cell BK450.out 1).trans rfl, (blk_cell BK451.out 0).trans rfl, (blk_cell BK451.out 1).trans rfl⟩ (fun hHeld => ?_); refine with_tabW standbyref55_Min.tab12 standbyref55_Min.bits12 (fun HT_ HW_ => ?_)
    generalize wr.drew = w44 at HO_9 BK450 BK451 BK452 HB hHeld ⊢
    refine pS (i := 0) (N := some 50) #[true, false, false, false, false, false, false, false, false, false, false] rfl rfl HT_.out ?_
    refine pS (i := 2) (N := some 52) #[true, false, true, false, false, false, false, false, false, false, false] rfl rfl HT_.out ?_
    refine pS (i := 5) (N := some 55) #[true, false, true, false, false, true, false, false, false, false, false] rfl rfl HT_.out ?_
    refine take_ (i := 1) (N := some 51) (v := ?_) (a' := ?_) #[true, true, true, false, false, true, false, false, false, false, false] rfl rfl (take_ofW HT_.out HW_.out (by kernel_rfl)) (fun _ _ _ h => h) (Or.inl ⟨by rfl, ?_⟩) hHeld ?_ ?_; rotate_left
    ·rintro w' ⟨s0, s1, s2, s3⟩
     go_simp
     with_reducible rfl
    rotate_left
    ·simp only [Act.put, List.setIfInBounds_toArray, List.set_cons_zero, List.set_cons_succ, i64_w, i32_w]
     rfl
    refine take_ (i := 4) (N := some 54) (v := ?_) (a' := ?_) #[true, true, true, false, true, true, false, false, false, false, false] rfl rfl (take_ofW HT_.out HW_.out (by kernel_rfl)) (fun _ _ _ h => h) (Or.inl ⟨by rfl, ?_⟩) hHeld ?_ ?_; rotate_left
    ·rintro w' ⟨s0, s1, s2, s3⟩
     go_simp
     with_reducible rfl
    rotate_left
    ·simp only [Act.put, List.setIfInBounds_toArray, List.set_cons_zero, List.set_cons_succ, i64_w, i32_w]
     rfl
    refine one_ (i := 3) (N := some 53) #[true, true, true, true, true, true, false, false, false, false, false] rfl rfl (one_of HT_.out (by kernel_rfl)) (by decide) (fun K hK => ?_)
    refine goes_ Try.func45 (by kernel_rfl) rfl #[.agg #[.slice A0_0 l0_0.length c0_0, .int .i64 a0_1], .int .i64 x10_1] (by rfl) rfl rfl (by (try simp only [List.map_toArray, List.map_cons, List.map_nil]); first | done | rfl | (simp only [List.length_drop, List.length_take]; rfl)) ?_
    with_reducible refine (standbyref55_value.calls _ _ l0_0 a0_1 x10_1 t457 _ ?side1 ?side2 A40.out).mono ?_
    (case side1 => exact qC HR0_0.out HB.out)
    (case side2 => exact HC0_0.out)
    rintro e w45 ⟨rfl, hb⟩
    refine ⟨_, rfl, ?_⟩
    have n0_ := Aside0.mk (Kd.R_below (qR HO_9.out) hb)
    have n1_ := Aside0.mk (blk_below (qB BK450.out) hb)
    have n2_ := Aside0.mk (blk_below (qB BK451.out) hb)
    have n3_ := Aside0.mk (blk_below (qB BK452.out) hb)
    have n4_ := Aside0.mk (below_step (qW HB.out) hb)
    clear HO_9 BK450 BK451 BK452 HB
    have HO_9 := n0_
    have BK450 := n1_
    have BK451 := n2_
    have BK452 := n3_
    have HB := n4_
    clear n0_ n1_ n2_ n3_ n4_
    (try clear hb); (try clear hb2); (try clear hk); (try clear hi)
    refine hK.out _ _ ⟨(blk_cell BK450.out 0).trans rfl, (blk_cell BK450.out 1).trans rfl, (blk_cell BK451.out 0).trans rfl, (blk_cell BK451.out 1).trans rfl⟩ (fun hHeld => ?_); clear hK K
    refine norm_ (a' := ?_) ?_ ?_; rotate_left
    ·show Act.put _ (some 53) _ = _
     simp only [Act.put, List.setIfInBounds_toArray, List.set_cons_zero, List.set_cons_succ, i64_w, i32_w]
     rfl
    refine one_ (i := 6) (N := some 56) #[true, true, true, true, true, true, true, false, false, false, false] rfl rfl (one_of HT_.out (by kernel_rfl)) (by decide) (fun K hK => ?_)
    refine goes_ Try.func45 (by kernel_rfl) rfl #[.agg #[.slice A1_0 l1_0.length c1_0, .int .i64 a1_1], .int .i64 x10_1] (by rfl) rfl rfl (by (try simp only [List.map_toArray, List.map_cons, List.map_nil]); first | done | rfl | (simp only [List.length_drop, List.length_take]; rfl)) ?_
    with_reducible refine (standbyref55_value.calls _ _ l1_0 a1_1 x10_1 t458 _ ?side1 ?side2 A41.out).mono ?_
    (case side1 => exact qC HR1_0.out HB.out)
    (case side2 => exact HC1_0.out)
    rintro e w46 ⟨rfl, hb⟩
    refine ⟨_, rfl, ?_⟩
    have n0_ := Aside0.mk (Kd.R_below (qR HO_9.out) hb)
    have n1_ := Aside0.mk (blk_below (qB BK450.out) hb)
    have n2_ := Aside0.mk (blk_below (qB BK451.out) hb)
    have n3_ := Aside0.mk (blk_below (qB BK452.out) hb)
    have n4_ := Aside0.mk (below_step (qW HB.out) hb)
    clear HO_9 BK450 BK451 BK452 HB
    have HO_9 := n0_
    have BK450 := n1_
    have BK451 := n2_
    have BK452 := n3_
    have HB := n4_
    clear n0_ n1_ n2_ n3_ n4_
    (try clear hb); (try clear hb2); (try clear hk); (try clear hi)
    refine hK.out _ _ ⟨(blk_cell BK450.out 0).trans rfl, (blk_cell BK450.out 1).trans rfl, (blk_cell BK451.out 0).trans rfl, (blk_cell BK451.out 1).trans rfl⟩ (fun hHeld => ?_); clear hK K
    refine norm_ (a' := ?_) ?_ ?_; rotate_left
    ·show Act.put _ (some 56) _ = _
     simp only [Act.put, List.setIfInBounds_toArray, List.set_cons_zero, List.set_cons_succ, i64_w, i32_w]
     rfl
    refine pS (i := 7) (N := some 57) #[true, true, true, true, true, true, true, true, false, false, false] rfl rfl HT_.out ?_
    refine one_ (i := 8) (N := some 58) #[true, true, true, true, true, true, true, true, true, false, false] rfl rfl (one_of HT_.out (by kernel_rfl)) (by decide) (fun K hK => ?_)
    refine value_ (w1 := ?_) (v := ?_) (by rfl) rfl ?_ ?_
    rotate_left 2
    ·go_simp
     constructor
     ·rfl
     ·rfl
    refine hK.out _ _ ⟨(blk_cell (blk_alloc BK450.out _) 0).trans rfl, (blk_cell (blk_alloc BK450.out _) 1).trans rfl, (blk_cell (blk_alloc BK451.out _) 0).trans rfl, (blk_cell (blk_alloc BK451.out _) 1).trans rfl⟩ (fun hHeld => ?_); clear hK K
    refine norm_ (a' := ?_) ?_ ?_; rotate_left
    ·show Act.put _ (some 58) _ = _
     simp only [Act.put, List.setIfInBounds_toArray, List.set_cons_zero, List.set_cons_succ, i64_w, i32_w]
     rfl
    refine one_ (i := 9) (N := some 59) #[true, true, true, true, true, true, true, true, true, true, false] rfl rfl (one_of HT_.out (by kernel_rfl)) (by decide) (fun K hK => ?_)
    refine Kd.R_append_step (Kd.int .i64) (w0 := w) w.heap.size (by rfl) (.tmp 50) (.tmp 58) 22 3 (.int .i64 0) 8 rfl Try.underlying22 info3 rfl (by decide) (by omega) u9 x9_1 ji42 [.int .i64 ji42] (fun _ => True) (fun _ => False) rfl rfl ?aP (fun _ hk => hk.elim) ?aF ?aO ?aB ?aS ?aL ?_
    (case aP => exact rfl)
    (case aB => exact (qW HB.out))
    (case aF => exact (fun _ _ => trivial))
    (case aO => exact (qR HO_9.out))
    (case aS => exact (below_size (qW HB.out)))
    (case aL => have := LMc43.out; omega)
    intro v460 w47 ho hb hg hat
    rw [← Ny459.out] at ho
    have n0_ := Aside0.mk (blk_grown (qB BK450.out) hg (Kd.R_ne HO_9.out BK450.out (by decide)))
    have n1_ := Aside0.mk (blk_grown (qB BK451.out) hg (Kd.R_ne HO_9.out BK451.out (by decide)))
    have n2_ := Aside0.mk (blk_grown (qB BK452.out) hg (Kd.R_ne HO_9.out BK452.out (by decide)))
    have n3_ := Aside0.mk (hb)
    have n4_ := Aside0.mk (ho)
    clear BK450 BK451 BK452 HB HO_9
    have BK450 := n0_
    have BK451 := n1_
    have BK452 := n2_
    have HB := n3_
    have HO461 := n4_
    clear n0_ n1_ n2_ n3_ n4_ ho hb hg hat
    refine hK.out _ _ ⟨(blk_cell BK450.out 0).trans rfl, (blk_cell BK450.out 1).trans rfl, (blk_cell BK451.out 0).trans rfl, (blk_cell BK451.out 1).trans rfl⟩ (fun hHeld => ?_); clear hK K
    refine norm_ (a' := ?_) ?_ ?_; rotate_left
    ·show Act.put _ (some 59) _ = _
     simp only [Act.put, List.setIfInBounds_toArray, List.set_cons_zero, List.set_cons_succ, i64_w, i32_w]
     rfl
    refine pS (i := 10) (N := some 9) #[true, true, true, true, true, true, true, true, true, true, true] rfl rfl HT_.out ?_
    refine done_ (done_of HT_.out (by kernel_rfl)) ?_
    try go_wp2
    go_roundg k1
    case measure => have := HK1.out; omega
    case rel => exact ⟨(y459), (wrap64 (x10_1 + 1)), (by first | rfl | (simp; done) | (simp [*]; done)), H', ⟨by have := HK1.out; omega⟩, ⟨by exact qR HO461.out⟩, ⟨by exact qB BK450.out⟩, ⟨by exact qB BK451.out⟩, ⟨by exact qB BK452.out⟩, ⟨by repeat (first | (with_reducible first | exact HB.out | apply below_alloc | apply pw_below_drewN | apply below_drew1 | refine below_set ?_ GE450.out | refine below_set ?_ GE451.out | refine below_set ?_ GE452.out) | exact HB.out)⟩⟩
end Go.Proofs.Ytanlonngekgibaa.Pr

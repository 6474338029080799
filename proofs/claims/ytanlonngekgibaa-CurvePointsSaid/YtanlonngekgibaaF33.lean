-- Written by pp.py, a program of this session, over the translation of the given program; a machine's text: Lean checks it.
import Derived.Test.YtanlonngekgibaaGShort
import Derived.Test.YtanlonngekgibaaF45
import Derived.Test.YtanlonngekgibaaF51
import Derived.Test.YtanlonngekgibaaF54
namespace Go.Proofs.Ytanlonngekgibaa.Pr
open Go.RowKit Go.Proofs.YtanlonngekgibaaW.PrintWords Go.Proofs.YtanlonngekgibaaW.PrintLast Go.Proofs.YtanlonngekgibaaW.PrintMore
attribute [local go_sem] max2_int min2_int max_two min_two max_three min_three max_four min_four   -- for this text's walks alone
set_option linter.unusedVariables false
set_option linter.unusedSimpArgs false

/-! ### standbyref55_Add: function 33 -/
def standbyref55_Add.l0 : Nat → List Int → Int → List Int → Int → List Int → Int → Option (List Int × Int × Int)
 | 0, _, _, _, _, _, _ => none
 | k + 1, x7, x8, x468000, x468001, x469000, x469001 => if x8 < (mx (x468000.length : Int) (x469000.length : Int)) then ((standbyref55_value.f x468000 x468001 x8).bind fun t471 => ((standbyref55_value.f x469000 x469001 x8).bind fun t472 => (if x7.length < 17592186044416 then (standbyref55_Add.l0 k (x7 ++ [wrap64 (t471 + t472)]) (wrap64 (x8 + 1)) x468000 x468001 x469000 x469001) else (none)))) else ((standbyref55_finish.f k x7 (wrap64 (x468001 + x469001))).bind fun bt476 => (some (bt476.1, bt476.2.1, bt476.2.2)))
def standbyref55_Add.f (k : Nat) (l0_0 : List Int) (a0_1 : Int) (l1_0 : List Int) (a1_1 : Int) : Option (List Int × Int × Int) := (standbyref55_pair.f k l0_0 a0_1 l1_0 a1_1).bind fun t470 => (if t470 = 0 then (standbyref55_Add.l0 k ([] : List Int) 0 l0_0 a0_1 l1_0 a1_1) else (some (([] : List Int), 0, t470)))
theorem standbyref55_Add.mono_l : ∀ k, (∀ y0 y1 y2 y3 y4 y5, LeO (standbyref55_Add.l0 k y0 y1 y2 y3 y4 y5) (standbyref55_Add.l0 (k + 1) y0 y1 y2 y3 y4 y5))
 | 0 => fun _ _ _ _ _ _ r h => by simp [standbyref55_Add.l0] at h
 | k + 1 => by
  have ih0 := standbyref55_Add.mono_l k
  ·intro y0 y1 y2 y3 y4 y5
   unfold standbyref55_Add.l0
   repeat' first
   | (with_reducible exact ih0 _ _ _ _ _ _)
   | (with_reducible exact standbyref55_finish.mono _ _ _)
   | (with_reducible exact standbyref55_pair.mono _ _ _ _ _)
   | (with_reducible exact LeO.refl _)
   | (with_reducible exact LeO.none _)
   | (with_reducible refine LeO.ite ?_ ?_)
   | (with_reducible refine LeO.bind ?_ (fun _ => ?_))
   | exact ih0 _ _ _ _ _ _
   | exact standbyref55_finish.mono _ _ _
   | exact standbyref55_pair.mono _ _ _ _ _
   | exact LeO.none _
   | refine LeO.ite ?_ ?_
   | refine LeO.bind ?_ (fun _ => ?_)
theorem standbyref55_Add.mono : ∀ a0 a1 a2 a3 k, LeO (standbyref55_Add.f k a0 a1 a2 a3) (standbyref55_Add.f (k + 1) a0 a1 a2 a3) := by
 intro a0 a1 a2 a3 k
 have ih0 := standbyref55_Add.mono_l k
 unfold standbyref55_Add.f
 repeat' first
   | (with_reducible exact ih0 _ _ _ _ _ _)
   | (with_reducible exact standbyref55_finish.mono _ _ _)
   | (with_reducible exact standbyref55_pair.mono _ _ _ _ _)
   | (with_reducible exact LeO.refl _)
   | (with_reducible exact LeO.none _)
   | (with_reducible refine LeO.ite ?_ ?_)
   | (with_reducible refine LeO.bind ?_ (fun _ => ?_))
   | exact ih0 _ _ _ _ _ _
   | exact standbyref55_finish.mono _ _ _
   | exact standbyref55_pair.mono _ _ _ _ _
   | exact LeO.none _
   | refine LeO.ite ?_ ?_
   | refine LeO.bind ?_ (fun _ => ?_)
def standbyref55_Add.T8 : Bool × List (List Nat × List Nat) := (true, [([], []), ([], []), ([], []), ([1, 2], [1, 2]), ([], []), ([], []), ([4, 5, 3], [4, 5]), ([3, 6], [3, 6]), ([7], [7]), ([0, 8, 6], [0, 8]), ([9, 9, 0, 1, 2, 3, 4, 5, 6, 7, 8, 9], [0, 9])])
def standbyref55_Add.B8 : List Nat := [0, 0, 0, 6, 0, 0, 62, 126, 254, 511, 1023]
theorem standbyref55_Add.tab8 : rtab .any (opsOf Try.f33 8) = standbyref55_Add.T8 := by kernel_rfl
theorem standbyref55_Add.bits8 : waitsOk standbyref55_Add.T8.2 standbyref55_Add.B8 = true := by kernel_rfl
set_option maxHeartbeats 8000000 in
set_option maxRecDepth 100000 in
theorem standbyref55_Add.calls (k : Nat) (A0_0 : Option Addr) (c0_0 : Nat) (l0_0 : List Int) (a0_1 : Int) (A1_0 : Option Addr) (c1_0 : Nat) (l1_0 : List Int) (a1_1 : Int) (r1 : List Int) (r2 : Int) (r3 : Int) (w : World) (hr0_0 : Kd.C (Kd.int .i64) w A0_0 l0_0.length l0_0) (hc0_0 : l0_0.length ≤ c0_0) (hr1_0 : Kd.C (Kd.int .i64) w A1_0 l1_0.length l1_0) (hc1_0 : l1_0.length ≤ c1_0) (h : standbyref55_Add.f k l0_0 a0_1 l1_0 a1_1 = some (r1, r2, r3)) :
  Calls Try.prog 33 #[.agg #[.slice A0_0 l0_0.length c0_0, .int .i64 a0_1], .agg #[.slice A1_0 l1_0.length c1_0, .int .i64 a1_1]] w fun e w' => ∃ v0_ : Value, e = .returned (.tuple #[.agg #[v0_, .int .i64 r2], .int .i64 r3]) ∧ Kd.R (Kd.int .i64) 3 w' w.heap.size (fun _ => True) v0_ r1 ∧ Below w.heap.size w w' := by
 have hu24 := Try.underlying24
 have HR0_0 := Aside0.mk hr0_0
 have HC0_0 := Aside0.mk hc0_0
 clear hr0_0 hc0_0
 have HR1_0 := Aside0.mk hr1_0
 have HC1_0 := Aside0.mk hc1_0
 clear hr1_0 hc1_0
 have HB := Aside0.mk (Below.refl w.heap.size w)
 have H : ((standbyref55_pair.f k l0_0 a0_1 l1_0 a1_1).bind fun t470 => (if t470 = 0 then (standbyref55_Add.l0 k ([] : List Int) 0 l0_0 a0_1 l1_0 a1_1) else (some (([] : List Int), 0, t470)))) = some (r1, r2, r3) := h
 clear h
 replace H := Option.bind_eq_some_iff.mp H
 obtain ⟨t470, A30, H⟩ := H
 replace H : (if t470 = 0 then (standbyref55_Add.l0 k ([] : List Int) 0 l0_0 a0_1 l1_0 a1_1) else (some (([] : List Int), 0, t470))) = some (r1, r2, r3) := H
 have A3 := Aside0.mk A30
 clear A30
 by_cases c4 : t470 = 0
 case neg =>
  rw [if_neg c4] at H
  have c4b0 : (t470 == 0) = false := beq_eq_false_iff_ne.mpr c4
  have c4b1 : (t470 != 0) = true := bne_iff_ne.mpr c4
  simp only [Option.some.injEq, Prod.mk.injEq] at H
  obtain ⟨rfl, rfl, rfl⟩ := H
  go_enter Try.func33, Try.ntmps33
  go_wp2_with (first | ((with_reducible refine gate_dst (N := 2) rfl ?_); refine box_event ?hg (N := 2) ?hd (cs := #[.slice A0_0 l0_0.length c0_0, .int .i64 a0_1]) (t := 24) ?hr ?_; (case hd => rfl); (case hg => rfl); (case hr => first | (go_simp; done) | (go_simp; rfl)); intro gb467 hg w38 hbox hb; have n0_ := Aside0.mk (below_step (qW HB.out) hb); have n1_ := Aside0.mk (hbox); have n2_ := Aside0.mk ((by rw [hg]; exact (below_size (qW HB.out)) : w.heap.size ≤ gb467)); have n3_ := Aside0.mk ((by rw [hg]; exact (below_size (qW HB.out)) : w.heap.size ≤ gb467)); clear HB; have HB := n0_; have BK467 := n1_; have GW467 := n2_; have GE467 := n3_; clear n0_ n1_ n2_ n3_ hb hbox hg) | ((with_reducible refine gate_dst (N := 3) rfl ?_); refine box_event ?hg (N := 3) ?hd (cs := #[.slice A1_0 l1_0.length c1_0, .int .i64 a1_1]) (t := 24) ?hr ?_; (case hd => rfl); (case hg => rfl); (case hr => first | (go_simp; done) | (go_simp; rfl)); intro gb468 hg w39 hbox hb; have n0_ := Aside0.mk (blk_below (qB BK467.out) hb); have n1_ := Aside0.mk (below_step (qW HB.out) hb); have n2_ := Aside0.mk (hbox); have n3_ := Aside0.mk ((by rw [hg]; exact (below_size (qW HB.out)) : w.heap.size ≤ gb468)); have n4_ := Aside0.mk ((by rw [hg]; exact (below_size (qW HB.out)) : w.heap.size ≤ gb468)); have n5_ := Aside0.mk ((by rw [hg]; exact Nat.ne_of_lt (blk_lt (qB BK467.out)) : gb467 ≠ gb468)); have n6_ := Aside0.mk ((by rw [hg]; exact Nat.ne_of_gt (blk_lt (qB BK467.out)) : gb468 ≠ gb467)); clear BK467 HB; have BK467 := n0_; have HB := n1_; have BK468 := n2_; have GW468 := n3_; have GE468 := n4_; have NB467_468 := n5_; have NB468_467 := n6_; clear n0_ n1_ n2_ n3_ n4_ n5_ n6_ hb hbox hg) | ((with_reducible refine gate_dst (N := 4) rfl ?_); refine box_event ?hg (N := 4) ?hd (cs := #[.slice none 0 0, .int .i64 0]) (t := 24) ?hr ?_; (case hd => rfl); (case hg => rfl); (case hr => first | (go_simp; done) | (go_simp; rfl)); intro gb469 hg w40 hbox hb; have n0_ := Aside0.mk (blk_below (qB BK467.out) hb); have n1_ := Aside0.mk (blk_below (qB BK468.out) hb); have n2_ := Aside0.mk (below_step (qW HB.out) hb); have n3_ := Aside0.mk (hbox); have n4_ := Aside0.mk ((by rw [hg]; exact (below_size (qW HB.out)) : w.heap.size ≤ gb469)); have n5_ := Aside0.mk ((by rw [hg]; exact (below_size (qW HB.out)) : w.heap.size ≤ gb469)); have n6_ := Aside0.mk ((by rw [hg]; exact Nat.ne_of_lt (blk_lt (qB BK467.out)) : gb467 ≠ gb469)); have n7_ := Aside0.mk ((by rw [hg]; exact Nat.ne_of_gt (blk_lt (qB BK467.out)) : gb469 ≠ gb467)); have n8_ := Aside0.mk ((by rw [hg]; exact Nat.ne_of_lt (blk_lt (qB BK468.out)) : gb468 ≠ gb469)); have n9_ := Aside0.mk ((by rw [hg]; exact Nat.ne_of_gt (blk_lt (qB BK468.out)) : gb469 ≠ gb468)); clear BK467 BK468 HB; have BK467 := n0_; have BK468 := n1_; have HB := n2_; have BK469 := n3_; have GW469 := n4_; have GE469 := n5_; have NB467_469 := n6_; have NB469_467 := n7_; have NB468_469 := n8_; have NB469_468 := n9_; clear n0_ n1_ n2_ n3_ n4_ n5_ n6_ n7_ n8_ n9_ hb hbox hg; have hnb41 := NB467_468.out; have hnc41 := NB468_467.out; have hnb42 := NB467_469.out; have hnc42 := NB469_467.out; have hcz43_0 : w40.cell? ⟨gb467, 0, none⟩ = some (.slice A0_0 l0_0.length c0_0) := (blk_cell BK467.out 0).trans rfl; have hcz43_1 : w40.cell? ⟨gb467, 1, none⟩ = some (.int .i64 a0_1) := (blk_cell BK467.out 1).trans rfl; have hfz43_0 := blk_frozen BK467.out 0; have hfz43_1 := blk_frozen BK467.out 1; have hnb44 := NB468_469.out; have hnc44 := NB469_468.out; have hcz45_0 : w40.cell? ⟨gb468, 0, none⟩ = some (.slice A1_0 l1_0.length c1_0) := (blk_cell BK468.out 0).trans rfl; have hcz45_1 : w40.cell? ⟨gb468, 1, none⟩ = some (.int .i64 a1_1) := (blk_cell BK468.out 1).trans rfl; have hfz45_0 := blk_frozen BK468.out 0; have hfz45_1 := blk_frozen BK468.out 1) | ((with_reducible refine gate_callee (f := 51) rfl ?_); refine goesL_ (some 11) rfl rfl Try.func51 (by kernel_rfl) rfl #[.agg #[.slice A0_0 l0_0.length c0_0, .int .i64 a0_1], .agg #[.slice A1_0 l1_0.length c1_0, .int .i64 a1_1]] rfl (by (try simp only [List.map_toArray, List.map_cons, List.map_nil]); first | done | rfl | (simp only [List.length_drop, List.length_take]; rfl)) ?_; (with_reducible refine (standbyref55_pair.calls k _ _ l0_0 a0_1 _ _ l1_0 a1_1 t470 _ ?side1 ?side2 ?side3 ?side4 A3.out).mono ?_); (case side1 => exact qC HR0_0.out HB.out); (case side2 => exact HC0_0.out); (case side3 => exact qC HR1_0.out HB.out); (case side4 => exact HC1_0.out); rintro e w46 ⟨rfl, hb⟩; refine ⟨_, rfl, ?_⟩; have n0_ := Aside0.mk (blk_below (qB BK467.out) hb); have n1_ := Aside0.mk (blk_below (qB BK468.out) hb); have n2_ := Aside0.mk (blk_below (qB BK469.out) hb); have n3_ := Aside0.mk (below_step (qW HB.out) hb); clear BK467 BK468 BK469 HB; have BK467 := n0_; have BK468 := n1_; have BK469 := n2_; have HB := n3_; clear n0_ n1_ n2_ n3_; (try clear hb); (try clear hb2); (try clear hk); (try clear hi); have hcz47_0 : w46.cell? ⟨gb469, 0, none⟩ = some (.slice none 0 0) := (blk_cell BK469.out 0).trans rfl; have hcz47_1 : w46.cell? ⟨gb469, 1, none⟩ = some (.int .i64 0) := (blk_cell BK469.out 1).trans rfl; have hfz47_0 := blk_frozen BK469.out 0; have hfz47_1 := blk_frozen BK469.out 1))
  refine bodyPost_ret (results_ct rfl _ _ gb469 24 #[.slice none 0 0, .int .i64 0] (0, 0) _ rfl (by (with_reducible repeat (first | refine blk_drewN ?_ _ | refine blk_drew ?_ | refine blk_alloc ?_ _)); refine blk_put (cs := #[.slice none 0 0, .int .i64 0]) ?_ 1 _ rfl; (with_reducible repeat (first | refine blk_drewN ?_ _ | refine blk_drew ?_ | refine blk_alloc ?_ _)); refine blk_put (cs := #[.slice none 0 0, .int .i64 0]) ?_ 0 _ rfl; exact qB BK469.out) Try.underlying24 rfl (by kernel_rfl)) rfl ?_
  exact ⟨_, by first | rfl | (simp [errW_none, errW_some] <;> rfl) | (simp [*, errW_none, errW_some] <;> rfl), by first | exact Kd.R_nil _ _ _ _ _ | exact Kd.N_nil _ _ _ _ _ | exact Kd.V_nil _ _ _ _ _ | exact Kd.Q_nil _ _ _ _ _ | exact Kd.S_nil _ _ _ _ _, by repeat (first | (with_reducible first | exact HB.out | apply below_alloc | apply pw_below_drewN | apply below_drew1 | refine below_set ?_ GE467.out | refine below_set ?_ GE468.out | refine below_set ?_ GE469.out) | exact HB.out)⟩

 rw [if_pos c4] at H
 have c4b0 : (t470 == 0) = true := beq_iff_eq.mpr c4
 have c4b1 : (t470 != 0) = false := bne_eq_false_iff_eq.mpr c4
 clear c4
 have H' := Aside0.mk H
 clear H
 go_enter Try.func33, Try.ntmps33
 go_wp2_with (first | ((with_reducible refine gate_dst (N := 2) rfl ?_); refine box_event ?hg (N := 2) ?hd (cs := #[.slice A0_0 l0_0.length c0_0, .int .i64 a0_1]) (t := 24) ?hr ?_; (case hd => rfl); (case hg => rfl); (case hr => first | (go_simp; done) | (go_simp; rfl)); intro gb467 hg w5 hbox hb; have n0_ := Aside0.mk (below_step (qW HB.out) hb); have n1_ := Aside0.mk (hbox); have n2_ := Aside0.mk ((by rw [hg]; exact (below_size (qW HB.out)) : w.heap.size ≤ gb467)); have n3_ := Aside0.mk ((by rw [hg]; exact (below_size (qW HB.out)) : w.heap.size ≤ gb467)); clear HB; have HB := n0_; have BK467 := n1_; have GW467 := n2_; have GE467 := n3_; clear n0_ n1_ n2_ n3_ hb hbox hg) | ((with_reducible refine gate_dst (N := 3) rfl ?_); refine box_event ?hg (N := 3) ?hd (cs := #[.slice A1_0 l1_0.length c1_0, .int .i64 a1_1]) (t := 24) ?hr ?_; (case hd => rfl); (case hg => rfl); (case hr => first | (go_simp; done) | (go_simp; rfl)); intro gb468 hg w6 hbox hb; have n0_ := Aside0.mk (blk_below (qB BK467.out) hb); have n1_ := Aside0.mk (below_step (qW HB.out) hb); have n2_ := Aside0.mk (hbox); have n3_ := Aside0.mk ((by rw [hg]; exact (below_size (qW HB.out)) : w.heap.size ≤ gb468)); have n4_ := Aside0.mk ((by rw [hg]; exact (below_size (qW HB.out)) : w.heap.size ≤ gb468)); have n5_ := Aside0.mk ((by rw [hg]; exact Nat.ne_of_lt (blk_lt (qB BK467.out)) : gb467 ≠ gb468)); have n6_ := Aside0.mk ((by rw [hg]; exact Nat.ne_of_gt (blk_lt (qB BK467.out)) : gb468 ≠ gb467)); clear BK467 HB; have BK467 := n0_; have HB := n1_; have BK468 := n2_; have GW468 := n3_; have GE468 := n4_; have NB467_468 := n5_; have NB468_467 := n6_; clear n0_ n1_ n2_ n3_ n4_ n5_ n6_ hb hbox hg) | ((with_reducible refine gate_dst (N := 4) rfl ?_); refine box_event ?hg (N := 4) ?hd (cs := #[.slice none 0 0, .int .i64 0]) (t := 24) ?hr ?_; (case hd => rfl); (case hg => rfl); (case hr => first | (go_simp; done) | (go_simp; rfl)); intro gb469 hg w7 hbox hb; have n0_ := Aside0.mk (blk_below (qB BK467.out) hb); have n1_ := Aside0.mk (blk_below (qB BK468.out) hb); have n2_ := Aside0.mk (below_step (qW HB.out) hb); have n3_ := Aside0.mk (hbox); have n4_ := Aside0.mk ((by rw [hg]; exact (below_size (qW HB.out)) : w.heap.size ≤ gb469)); have n5_ := Aside0.mk ((by rw [hg]; exact (below_size (qW HB.out)) : w.heap.size ≤ gb469)); have n6_ := Aside0.mk ((by rw [hg]; exact Nat.ne_of_lt (blk_lt (qB BK467.out)) : gb467 ≠ gb469)); have n7_ := Aside0.mk ((by rw [hg]; exact Nat.ne_of_gt (blk_lt (qB BK467.out)) : gb469 ≠ gb467)); have n8_ := Aside0.mk ((by rw [hg]; exact Nat.ne_of_lt (blk_lt (qB BK468.out)) : gb468 ≠ gb469)); have n9_ := Aside0.mk ((by rw [hg]; exact Nat.ne_of_gt (blk_lt (qB BK468.out)) : gb469 ≠ gb468)); clear BK467 BK468 HB; have BK467 := n0_; have BK468 := n1_; have HB := n2_; have BK469 := n3_; have GW469 := n4_; have GE469 := n5_; have NB467_469 := n6_; have NB469_467 := n7_; have NB468_469 := n8_; have NB469_468 := n9_; clear n0_ n1_ n2_ n3_ n4_ n5_ n6_ n7_ n8_ n9_ hb hbox hg; have hnb8 := NB467_468.out; have hnc8 := NB468_467.out; have hnb9 := NB467_469.out; have hnc9 := NB469_467.out; have hcz10_0 : w7.cell? ⟨gb467, 0, none⟩ = some (.slice A0_0 l0_0.length c0_0) := (blk_cell BK467.out 0).trans rfl; have hcz10_1 : w7.cell? ⟨gb467, 1, none⟩ = some (.int .i64 a0_1) := (blk_cell BK467.out 1).trans rfl; have hfz10_0 := blk_frozen BK467.out 0; have hfz10_1 := blk_frozen BK467.out 1; have hnb11 := NB468_469.out; have hnc11 := NB469_468.out; have hcz12_0 : w7.cell? ⟨gb468, 0, none⟩ = some (.slice A1_0 l1_0.length c1_0) := (blk_cell BK468.out 0).trans rfl; have hcz12_1 : w7.cell? ⟨gb468, 1, none⟩ = some (.int .i64 a1_1) := (blk_cell BK468.out 1).trans rfl; have hfz12_0 := blk_frozen BK468.out 0; have hfz12_1 := blk_frozen BK468.out 1) | ((with_reducible refine gate_callee (f := 51) rfl ?_); refine goesL_ (some 11) rfl rfl Try.func51 (by kernel_rfl) rfl #[.agg #[.slice A0_0 l0_0.length c0_0, .int .i64 a0_1], .agg #[.slice A1_0 l1_0.length c1_0, .int .i64 a1_1]] rfl (by (try simp only [List.map_toArray, List.map_cons, List.map_nil]); first | done | rfl | (simp only [List.length_drop, List.length_take]; rfl)) ?_; (with_reducible refine (standbyref55_pair.calls k _ _ l0_0 a0_1 _ _ l1_0 a1_1 t470 _ ?side1 ?side2 ?side3 ?side4 A3.out).mono ?_); (case side1 => exact qC HR0_0.out HB.out); (case side2 => exact HC0_0.out); (case side3 => exact qC HR1_0.out HB.out); (case side4 => exact HC1_0.out); rintro e w13 ⟨rfl, hb⟩; refine ⟨_, rfl, ?_⟩; have n0_ := Aside0.mk (blk_below (qB BK467.out) hb); have n1_ := Aside0.mk (blk_below (qB BK468.out) hb); have n2_ := Aside0.mk (blk_below (qB BK469.out) hb); have n3_ := Aside0.mk (below_step (qW HB.out) hb); clear BK467 BK468 BK469 HB; have BK467 := n0_; have BK468 := n1_; have BK469 := n2_; have HB := n3_; clear n0_ n1_ n2_ n3_; (try clear hb); (try clear hb2); (try clear hk); (try clear hi)))
 go_loopg [7, 8] k (fun kq v7 v8 w' => ∃ (x7_1 : List Int) (x8_1 : Int), v8 = .int .i64 x8_1 ∧ Aside0 (standbyref55_Add.l0 kq x7_1 x8_1 l0_0 a0_1 l1_0 a1_1 = some (r1, r2, r3)) ∧ Aside0 (kq ≤ k) ∧ Aside0 (Kd.R (Kd.int .i64) 3 w' w.heap.size (fun _ => True) v7 x7_1) ∧ Aside0 (w'.heap[gb467]? = some (.cells #[(.slice A0_0 l0_0.length c0_0), .int .i64 a0_1] 24 (0, 0))) ∧ Aside0 (w'.heap[gb468]? = some (.cells #[(.slice A1_0 l1_0.length c1_0), .int .i64 a1_1] 24 (0, 0))) ∧ Aside0 (w'.heap[gb469]? = some (.cells #[(.slice none 0 0), .int .i64 0] 24 (0, 0))) ∧ Aside0 (Below w.heap.size w w'))
 case atStart => exact ⟨(([] : List Int)), (0), (by first | rfl | (simp; done) | (simp [*]; done)), H', ⟨Nat.le_refl _⟩, ⟨by first | exact Kd.R_nil _ _ _ _ _ | exact Kd.N_nil _ _ _ _ _ | exact Kd.V_nil _ _ _ _ _ | exact Kd.Q_nil _ _ _ _ _ | exact Kd.S_nil _ _ _ _ _⟩, ⟨by exact qB BK467.out⟩, ⟨by exact qB BK468.out⟩, ⟨by exact qB BK469.out⟩, ⟨by repeat (first | (with_reducible first | exact HB.out | apply below_alloc | apply pw_below_drewN | apply below_drew1 | refine below_set ?_ GE467.out | refine below_set ?_ GE468.out | refine below_set ?_ GE469.out) | exact HB.out)⟩⟩
 case round =>
  clear H'
  try clear c1
  try clear p2
  try clear c3
  try clear c4
  try clear c4b0
  try clear c4b1
  try clear c5
  try clear c8
  try clear c9
  try clear c11
  try clear hcz10_0
  try clear hcz10_1
  try clear hcz12_0
  try clear hcz12_1
  try clear hfz10_0
  try clear hfz10_1
  try clear hfz12_0
  try clear hfz12_1
  obtain ⟨x7_1, x8_1, rfl, HA, HK1, HO_7, BK467, BK468, BK469, HB⟩ := hrel
  cases gk with
  | zero => exact absurd HA.out (by simp [standbyref55_Add.l0])
  | succ k1 =>
   have H := HA.out
   clear HA
   simp only [standbyref55_Add.l0] at H
   obtain ⟨ji14, hji14⟩ : ∃ j_ : Int, (mx (l0_0.length : Int) (l1_0.length : Int)) = j_ := ⟨_, rfl⟩
   replace H : (if x8_1 < (ji14) then ((standbyref55_value.f l0_0 a0_1 x8_1).bind fun t471 => ((standbyref55_value.f l1_0 a1_1 x8_1).bind fun t472 => (if x7_1.length < 17592186044416 then (standbyref55_Add.l0 k1 (x7_1 ++ [wrap64 (t471 + t472)]) (wrap64 (x8_1 + 1)) l0_0 a0_1 l1_0 a1_1) else (none)))) else ((standbyref55_finish.f k1 x7_1 (wrap64 (a0_1 + a1_1))).bind fun bt476 => (some (bt476.1, bt476.2.1, bt476.2.2)))) = some (r1, r2, r3) := by first | (rw [hji14] at H; exact H) | (simp only [hji14] at H ⊢; exact H)
   (try (have hji14l : 0 ≤ ji14 := by (rw [← hji14]; unfold mx; (repeat' split) <;> omega)))
   (try (have hji14m : 0 ≤ ji14 := by omega))
   have hji14_ : (if (l0_0.length : Int) < (l1_0.length : Int) then (l1_0.length : Int) else (l0_0.length : Int)) = ji14 := hji14
   have hji14n : (if l0_0.length < l1_0.length then (l1_0.length : Int) else (l0_0.length : Int)) = ji14 := by rw [← hji14]; unfold mx; simp only [Int.ofNat_lt]
   by_cases c15 : x8_1 < (ji14)
   case neg =>
    rw [if_neg c15] at H
    have c15b0 : decide (x8_1 < (ji14)) = false := decide_eq_false c15
    clear c15
    replace H := Option.bind_eq_some_iff.mp H
    obtain ⟨⟨t476, t479, t480⟩, A280, H⟩ := H
    replace H : (some (t476, t479, t480)) = some (r1, r2, r3) := H
    have A28 := Aside0.mk A280
    clear A280
    simp only [Option.some.injEq, Prod.mk.injEq] at H
    obtain ⟨rfl, rfl, rfl⟩ := H
    have hnb29 := NB467_468.out
    have hnc29 := NB468_467.out
    have hnb30 := NB467_469.out
    have hnc30 := NB469_467.out
    have hcz31_0 : wr.cell? ⟨gb467, 0, none⟩ = some (.slice A0_0 l0_0.length c0_0) := (blk_cell BK467.out 0).trans rfl
    have hcz31_1 : wr.cell? ⟨gb467, 1, none⟩ = some (.int .i64 a0_1) := (blk_cell BK467.out 1).trans rfl
    have hfz31_0 := blk_frozen BK467.out 0
    have hfz31_1 := blk_frozen BK467.out 1
    have hnb32 := NB468_469.out
    have hnc32 := NB469_468.out
    have hcz33_0 : wr.cell? ⟨gb468, 0, none⟩ = some (.slice A1_0 l1_0.length c1_0) := (blk_cell BK468.out 0).trans rfl
    have hcz33_1 : wr.cell? ⟨gb468, 1, none⟩ = some (.int .i64 a1_1) := (blk_cell BK468.out 1).trans rfl
    have hfz33_0 := blk_frozen BK468.out 0
    have hfz33_1 := blk_frozen BK468.out 1
    obtain ⟨Ao34, co34, eo34⟩ := Kd.R_slice HO_7.out
    subst eo34
    go_wp2_with (first | ((with_reducible refine gate_callee (f := 54) rfl ?_); refine goesL_ (some 43) rfl rfl Try.func54 (by kernel_rfl) rfl #[.slice Ao34 x7_1.length co34, .int .i64 (wrap64 (a0_1 + a1_1))] rfl (by (try simp only [List.map_toArray, List.map_cons, List.map_nil]); first | done | rfl | (simp only [List.length_drop, List.length_take]; rfl)) ?_; (with_reducible refine (standbyref55_finish.calls k1 (fun k_ => some k_ = (.slice Ao34 x7_1.length co34 : Value).ownBlock) (.slice Ao34 x7_1.length co34) x7_1 (wrap64 (a0_1 + a1_1)) t476 t479 t480 w _ ?side1 ?side2 A28.out).mono ?_); (case side1 => repeat (first | (with_reducible first | exact HB.out | apply below_alloc | apply pw_below_drewN | apply below_drew1 | refine below_set ?_ GE467.out | refine below_set ?_ GE468.out | refine below_set ?_ GE469.out) | exact HB.out)); (case side2 => exact Kd.R_tight rfl HO_7.out); rintro e w35 ⟨v477, rfl, ho0, hb, hkp⟩; refine ⟨_, rfl, ?_⟩; have n0_ := Aside0.mk (blk_kept (qB BK467.out) hkp (fun hs_ => (fun e_ => (Kd.R_ne HO_7.out BK467.out (by decide)) e_) hs_)); have n1_ := Aside0.mk (blk_kept (qB BK468.out) hkp (fun hs_ => (fun e_ => (Kd.R_ne HO_7.out BK468.out (by decide)) e_) hs_)); have n2_ := Aside0.mk (blk_kept (qB BK469.out) hkp (fun hs_ => (fun e_ => (Kd.R_ne HO_7.out BK469.out (by decide)) e_) hs_)); have n3_ := Aside0.mk (Kd.R_mono (ok' := fun k_ => True) ho0 (fun k_ hk_ => trivial)); have n4_ := Aside0.mk (hb); clear BK467 BK468 BK469 HB HO_7; have BK467 := n0_; have BK468 := n1_; have BK469 := n2_; have HO478 := n3_; have HB := n4_; clear n0_ n1_ n2_ n3_ n4_; (try clear hb); (try clear hkp); (try clear ho0); obtain ⟨Ao36, co36, eo36⟩ := Kd.R_slice HO478.out; subst eo36; have hcz37_0 : w35.cell? ⟨gb469, 0, none⟩ = some (.slice none 0 0) := (blk_cell BK469.out 0).trans rfl; have hcz37_1 : w35.cell? ⟨gb469, 1, none⟩ = some (.int .i64 0) := (blk_cell BK469.out 1).trans rfl; have hfz37_0 := blk_frozen BK469.out 0; have hfz37_1 := blk_frozen BK469.out 1))
    refine bodyPost_ret (results_ct rfl _ _ gb469 24 #[.slice Ao36 t476.length co36, .int .i64 t479] (0, 0) _ rfl (by (with_reducible repeat (first | refine blk_drewN ?_ _ | refine blk_drew ?_ | refine blk_alloc ?_ _)); refine blk_put (cs := #[.slice Ao36 t476.length co36, .int .i64 0]) ?_ 1 _ rfl; (with_reducible repeat (first | refine blk_drewN ?_ _ | refine blk_drew ?_ | refine blk_alloc ?_ _)); refine blk_put (cs := #[.slice none 0 0, .int .i64 0]) ?_ 0 _ rfl; exact qB BK469.out) Try.underlying24 rfl (by kernel_rfl)) rfl ?_
    exact ⟨_, by first | rfl | (simp [errW_none, errW_some] <;> rfl) | (simp only [← hji14]; first | rfl | (simp [errW_none, errW_some] <;> rfl)) | (simp [*, errW_none, errW_some] <;> rfl), by exact qR (Kd.R_mono (Kd.R_far (p := ⟨gb469, 1, none⟩) (Kd.R_far (p := ⟨gb469, 0, none⟩) (Kd.R_types HO478.out BK469.out (by decide)) (fun _ hk => hk.2) (.slice Ao36 t476.length co36)) (fun _ hk => hk.2) (.int .i64 t479)) (fun _ hk => trivial)), by repeat (first | (with_reducible first | exact HB.out | apply below_alloc | apply pw_below_drewN | apply below_drew1 | refine below_set ?_ GE467.out | refine below_set ?_ GE468.out | refine below_set ?_ GE469.out) | exact HB.out)⟩
   rw [if_pos c15] at H
   have c15b0 : decide (x8_1 < (ji14)) = true := decide_eq_true c15
   clear c15
   replace H := Option.bind_eq_some_iff.mp H
   obtain ⟨t471, A160, H⟩ := H
   replace H : ((standbyref55_value.f l1_0 a1_1 x8_1).bind fun t472 => (if x7_1.length < 17592186044416 then (standbyref55_Add.l0 k1 (x7_1 ++ [wrap64 (t471 + t472)]) (wrap64 (x8_1 + 1)) l0_0 a0_1 l1_0 a1_1) else (none))) = some (r1, r2, r3) := H
   have A16 := Aside0.mk A160
   clear A160
   replace H := Option.bind_eq_some_iff.mp H
   obtain ⟨t472, A170, H⟩ := H
   replace H : (if x7_1.length < 17592186044416 then (standbyref55_Add.l0 k1 (x7_1 ++ [wrap64 (t471 + t472)]) (wrap64 (x8_1 + 1)) l0_0 a0_1 l1_0 a1_1) else (none)) = some (r1, r2, r3) := H
   have A17 := Aside0.mk A170
   clear A170
   by_cases c18 : x7_1.length < 17592186044416
   case neg =>
    rw [if_neg c18] at H
    exact absurd H (by simp)
   rw [if_pos c18] at H
   have LMc18 := Aside0.mk c18
   clear c18
   obtain ⟨y473, hy473⟩ : ∃ y_ : List Int, y_ = (x7_1 ++ [wrap64 (t471 + t472)]) := ⟨_, rfl⟩
   replace H : (standbyref55_Add.l0 k1 y473 (wrap64 (x8_1 + 1)) l0_0 a0_1 l1_0 a1_1) = some (r1, r2, r3) := by first | (rw [hy473]; with_reducible exact H) | (have H2_ := (Option.bind_some _ _).symm.trans H; rw [hy473]; with_reducible exact H2_) | (have H2_ := (Option.bind_some _ _).symm.trans H; with_reducible exact H2_) | with_reducible exact H | (rw [hy473]; exact H) | exact H
   have Ny473 := Aside0.mk hy473
   clear hy473
   have H' := Aside0.mk H
   clear H
   have hnb19 := NB467_468.out
   have hnc19 := NB468_467.out
   have hnb20 := NB467_469.out
   have hnc20 := NB469_467.out
   have hcz21_0 : wr.cell? ⟨gb467, 0, none⟩ = some (.slice A0_0 l0_0.length c0_0) := (blk_cell BK467.out 0).trans rfl
   have hcz21_1 : wr.cell? ⟨gb467, 1, none⟩ = some (.int .i64 a0_1) := (blk_cell BK467.out 1).trans rfl
   have hfz21_0 := blk_frozen BK467.out 0
   have hfz21_1 := blk_frozen BK467.out 1
   have hnb22 := NB468_469.out
   have hnc22 := NB469_468.out
   have hcz23_0 : wr.cell? ⟨gb468, 0, none⟩ = some (.slice A1_0 l1_0.length c1_0) := (blk_cell BK468.out 0).trans rfl
   have hcz23_1 : wr.cell? ⟨gb468, 1, none⟩ = some (.int .i64 a1_1) := (blk_cell BK468.out 1).trans rfl
   have hfz23_0 := blk_frozen BK468.out 0
   have hfz23_1 := blk_frozen BK468.out 1
   try go_wp2
   have n0_ := Aside0.mk (Kd.R_drew HO_7.out)
   have n1_ := Aside0.mk (blk_drew BK467.out)
   have n2_ := Aside0.mk (blk_drew BK468.out)
   have n3_ := Aside0.mk (blk_drew BK469.out)
   have n4_ := Aside0.mk (below_drew1 HB.out)
   clear HO_7 BK467 BK468 BK469 HB
   have HO_7 := n0_
   have BK467 := n1_
   have BK468 := n2_
   have BK469 := n3_
   have HB := n4_
   clear n0_ n1_ n2_ n3_ n4_
   refine start_ (n := 11) (S := fun w' => w'.cell? ⟨gb467, 0, none⟩ = some (.slice A0_0 l0_0.length c0_0) ∧ w'.cell? ⟨gb467, 1, none⟩ = some (.int .i64 a0_1) ∧ w'.cell? ⟨gb468, 0, none⟩ = some (.slice A1_0 l1_0.length c1_0) ∧ w'.cell? ⟨gb468, 1, none⟩ = some (.int .i64 a1_1)) (ds := []) #[false, false, false, false, false, false, false, false, false, false, false] (by kernel_rfl) rfl rfl ⟨(blk_cell BK467.out 0).trans rfl, (blk_cell BK467.out 1).trans rfl, (blk_cell BK468.out 0).trans rfl, (blk_cell BK468.out 1).trans rfl⟩ (fun hHeld => ?_); refine with_tabW standbyref55_Add.tab8 standbyref55_Add.bits8 (fun HT_ HW_ => ?_)
   generalize wr.drew = w24 at HO_7 BK467 BK468 BK469 HB hHeld ⊢
   refine pS (i := 0) (N := some 27) #[true, false, false, false, false, false, false, false, false, false, false] rfl rfl HT_.out ?_
   refine pS (i := 2) (N := some 29) #[true, false, true, false, false, false, false, false, false, false, false] rfl rfl HT_.out ?_
   refine pS (i := 5) (N := some 32) #[true, false, true, false, false, true, false, false, false, false, false] rfl rfl HT_.out ?_
   refine take_ (i := 1) (N := some 28) (v := ?_) (a' := ?_) #[true, true, true, false, false, true, false, false, false, false, false] rfl rfl (take_ofW HT_.out HW_.out (by kernel_rfl)) (fun _ _ _ h => h) (Or.inl ⟨by rfl, ?_⟩) hHeld ?_ ?_; rotate_left
   ·rintro w' ⟨s0, s1, s2, s3⟩
    go_simp
    with_reducible rfl
   rotate_left
   ·simp only [Act.put, List.setIfInBounds_toArray, List.set_cons_zero, List.set_cons_succ, i64_w, i32_w]
    rfl
   refine take_ (i := 4) (N := some 31) (v := ?_) (a' := ?_) #[true, true, true, false, true, true, false, false, false, false, false] rfl rfl (take_ofW HT_.out HW_.out (by kernel_rfl)) (fun _ _ _ h => h) (Or.inl ⟨by rfl, ?_⟩) hHeld ?_ ?_; rotate_left
   ·rintro w' ⟨s0, s1, s2, s3⟩
    go_simp
    with_reducible rfl
   rotate_left
   ·simp only [Act.put, List.setIfInBounds_toArray, List.set_cons_zero, List.set_cons_succ, i64_w, i32_w]
    rfl
   refine one_ (i := 3) (N := some 30) #[true, true, true, true, true, true, false, false, false, false, false] rfl rfl (one_of HT_.out (by kernel_rfl)) (by decide) (fun K hK => ?_)
   refine goes_ Try.func45 (by kernel_rfl) rfl #[.agg #[.slice A0_0 l0_0.length c0_0, .int .i64 a0_1], .int .i64 x8_1] (by rfl) rfl rfl (by (try simp only [List.map_toArray, List.map_cons, List.map_nil]); first | done | rfl | (simp only [List.length_drop, List.length_take]; rfl)) ?_
   with_reducible refine (standbyref55_value.calls _ _ l0_0 a0_1 x8_1 t471 _ ?side1 ?side2 A16.out).mono ?_
   (case side1 => exact qC HR0_0.out HB.out)
   (case side2 => exact HC0_0.out)
   rintro e w25 ⟨rfl, hb⟩
   refine ⟨_, rfl, ?_⟩
   have n0_ := Aside0.mk (Kd.R_below (qR HO_7.out) hb)
   have n1_ := Aside0.mk (blk_below (qB BK467.out) hb)
   have n2_ := Aside0.mk (blk_below (qB BK468.out) hb)
   have n3_ := Aside0.mk (blk_below (qB BK469.out) hb)
   have n4_ := Aside0.mk (below_step (qW HB.out) hb)
   clear HO_7 BK467 BK468 BK469 HB
   have HO_7 := n0_
   have BK467 := n1_
   have BK468 := n2_
   have BK469 := n3_
   have HB := n4_
   clear n0_ n1_ n2_ n3_ n4_
   (try clear hb); (try clear hb2); (try clear hk); (try clear hi)
   refine hK.out _ _ ⟨(blk_cell BK467.out 0).trans rfl, (blk_cell BK467.out 1).trans rfl, (blk_cell BK468.out 0).trans rfl, (blk_cell BK468.out 1).trans rfl⟩ (fun hHeld => ?_); clear hK K
   refine norm_ (a' := ?_) ?_ ?_; rotate_left
   ·show Act.put _ (some 30) _ = _
    simp only [Act.put, List.setIfInBounds_toArray, List.set_cons_zero, List.set_cons_succ, i64_w, i32_w]
    rfl
   refine one_ (i := 6) (N := some 33) #[true, true, true, true, true, true, true, false, false, false, false] rfl rfl (one_of HT_.out (by kernel_rfl)) (by decide) (fun K hK => ?_)
   refine goes_ Try.func45 (by kernel_rfl) rfl #[.agg #[.slice A1_0 l1_0.length c1_0, .int .i64 a1_1], .int .i64 x8_1] (by rfl) rfl rfl (by (try simp only [List.map_toArray, List.map_cons, List.map_nil]); first | done | rfl | (simp only [List.length_drop, List.length_take]; rfl)) ?_
   with_reducible refine (standbyref55_value.calls _ _ l1_0 a1_1 x8_1 t472 _ ?side1 ?side2 A17.out).mono ?_
   (case side1 => exact qC HR1_0.out HB.out)
   (case side2 => exact HC1_0.out)
   rintro e w26 ⟨rfl, hb⟩
   refine ⟨_, rfl, ?_⟩
   have n0_ := Aside0.mk (Kd.R_below (qR HO_7.out) hb)
   have n1_ := Aside0.mk (blk_below (qB BK467.out) hb)
   have n2_ := Aside0.mk (blk_below (qB BK468.out) hb)
   have n3_ := Aside0.mk (blk_below (qB BK469.out) hb)
   have n4_ := Aside0.mk (below_step (qW HB.out) hb)
   clear HO_7 BK467 BK468 BK469 HB
   have HO_7 := n0_
   have BK467 := n1_
   have BK468 := n2_
   have BK469 := n3_
   have HB := n4_
   clear n0_ n1_ n2_ n3_ n4_
   (try clear hb); (try clear hb2); (try clear hk); (try clear hi)
   refine hK.out _ _ ⟨(blk_cell BK467.out 0).trans rfl, (blk_cell BK467.out 1).trans rfl, (blk_cell BK468.out 0).trans rfl, (blk_cell BK468.out 1).trans rfl⟩ (fun hHeld => ?_); clear hK K
   refine norm_ (a' := ?_) ?_ ?_; rotate_left
   ·show Act.put _ (some 33) _ = _
    simp only [Act.put, List.setIfInBounds_toArray, List.set_cons_zero, List.set_cons_succ, i64_w, i32_w]
    rfl
   refine pS (i := 7) (N := some 34) #[true, true, true, true, true, true, true, true, false, false, false] rfl rfl HT_.out ?_
   refine one_ (i := 8) (N := some 35) #[true, true, true, true, true, true, true, true, true, false, false] rfl rfl (one_of HT_.out (by kernel_rfl)) (by decide) (fun K hK => ?_)
   refine value_ (w1 := ?_) (v := ?_) (by rfl) rfl ?_ ?_
   rotate_left 2
   ·go_simp
    constructor
    ·rfl
    ·rfl
   refine hK.out _ _ ⟨(blk_cell (blk_alloc BK467.out _) 0).trans rfl, (blk_cell (blk_alloc BK467.out _) 1).trans rfl, (blk_cell (blk_alloc BK468.out _) 0).trans rfl, (blk_cell (blk_alloc BK468.out _) 1).trans rfl⟩ (fun hHeld => ?_); clear hK K
   refine norm_ (a' := ?_) ?_ ?_; rotate_left
   ·show Act.put _ (some 35) _ = _
    simp only [Act.put, List.setIfInBounds_toArray, List.set_cons_zero, List.set_cons_succ, i64_w, i32_w]
    rfl
   refine one_ (i := 9) (N := some 36) #[true, true, true, true, true, true, true, true, true, true, false] rfl rfl (one_of HT_.out (by kernel_rfl)) (by decide) (fun K hK => ?_)
   refine Kd.R_append_step (Kd.int .i64) (w0 := w) w.heap.size (by rfl) (.tmp 27) (.tmp 35) 22 3 (.int .i64 0) 8 rfl Try.underlying22 info3 rfl (by decide) (by omega) u7 x7_1 (wrap64 (t471 + t472)) [.int .i64 (wrap64 (t471 + t472))] (fun _ => True) (fun _ => False) rfl rfl ?aP (fun _ hk => hk.elim) ?aF ?aO ?aB ?aS ?aL ?_
   (case aP => exact rfl)
   (case aB => exact (qW HB.out))
   (case aF => exact (fun _ _ => trivial))
   (case aO => exact (qR HO_7.out))
   (case aS => exact (below_size (qW HB.out)))
   (case aL => have := LMc18.out; omega)
   intro v474 w27 ho hb hg hat
   rw [← Ny473.out] at ho
   have n0_ := Aside0.mk (blk_grown (qB BK467.out) hg (Kd.R_ne HO_7.out BK467.out (by decide)))
   have n1_ := Aside0.mk (blk_grown (qB BK468.out) hg (Kd.R_ne HO_7.out BK468.out (by decide)))
   have n2_ := Aside0.mk (blk_grown (qB BK469.out) hg (Kd.R_ne HO_7.out BK469.out (by decide)))
   have n3_ := Aside0.mk (hb)
   have n4_ := Aside0.mk (ho)
   clear BK467 BK468 BK469 HB HO_7
   have BK467 := n0_
   have BK468 := n1_
   have BK469 := n2_
   have HB := n3_
   have HO475 := n4_
   clear n0_ n1_ n2_ n3_ n4_ ho hb hg hat
   refine hK.out _ _ ⟨(blk_cell BK467.out 0).trans rfl, (blk_cell BK467.out 1).trans rfl, (blk_cell BK468.out 0).trans rfl, (blk_cell BK468.out 1).trans rfl⟩ (fun hHeld => ?_); clear hK K
   refine norm_ (a' := ?_) ?_ ?_; rotate_left
   ·show Act.put _ (some 36) _ = _
    simp only [Act.put, List.setIfInBounds_toArray, List.set_cons_zero, List.set_cons_succ, i64_w, i32_w]
    rfl
   refine pS (i := 10) (N := some 7) #[true, true, true, true, true, true, true, true, true, true, true] rfl rfl HT_.out ?_
   refine done_ (done_of HT_.out (by kernel_rfl)) ?_
   try go_wp2
   go_roundg k1
   case measure => have := HK1.out; omega
   case rel => exact ⟨(y473), (wrap64 (x8_1 + 1)), (by first | rfl | (simp; done) | (simp [*]; done)), H', ⟨by have := HK1.out; omega⟩, ⟨by exact qR HO475.out⟩, ⟨by exact qB BK467.out⟩, ⟨by exact qB BK468.out⟩, ⟨by exact qB BK469.out⟩, ⟨by repeat (first | (with_reducible first | exact HB.out | apply below_alloc | apply pw_below_drewN | apply below_drew1 | refine below_set ?_ GE467.out | refine below_set ?_ GE468.out | refine below_set ?_ GE469.out) | exact HB.out)⟩⟩
end Go.Proofs.Ytanlonngekgibaa.Pr

-- Written by pp.py, a program of this session, over the translation of the given program; a machine's text: Lean checks it.
import Derived.Test.YtanlonngekgibaaGShort
import Derived.Test.YtanlonngekgibaaF45
import Derived.Test.YtanlonngekgibaaF51
namespace Go.Proofs.Ytanlonngekgibaa.Pr
open Go.RowKit Go.Proofs.YtanlonngekgibaaW.PrintWords Go.Proofs.YtanlonngekgibaaW.PrintLast Go.Proofs.YtanlonngekgibaaW.PrintMore
attribute [local go_sem] max2_int min2_int max_two min_two max_three min_three max_four min_four   -- for this text's walks alone
set_option linter.unusedVariables false
set_option linter.unusedSimpArgs false

/-! ### standbyref55_Backlog: function 27 -/
def standbyref55_Backlog.l0 : Nat → Int → Int → List Int → Int → List Int → Int → Option (Int × Int)
 | 0, _, _, _, _, _, _ => none
 | k + 1, x7, x8, x294000, x294001, x295000, x295001 => if x8 < (mx (x294000.length : Int) (x295000.length : Int)) then ((standbyref55_value.f x294000 x294001 x8).bind fun t296 => ((standbyref55_value.f x295000 x295001 x8).bind fun t297 => (standbyref55_Backlog.l0 k (mx x7 (wrap64 (t296 - t297))) (wrap64 (x8 + 1)) x294000 x294001 x295000 x295001))) else (some (x7, 0))
def standbyref55_Backlog.f (k : Nat) (l0_0 : List Int) (a0_1 : Int) (l1_0 : List Int) (a1_1 : Int) : Option (Int × Int) := (standbyref55_pair.f k l0_0 a0_1 l1_0 a1_1).bind fun t295 => (if t295 = 0 then (if a0_1 > a1_1 then (some (0, 21)) else (standbyref55_Backlog.l0 k 0 0 l0_0 a0_1 l1_0 a1_1)) else (some (0, t295)))
theorem standbyref55_Backlog.mono_l : ∀ k, (∀ y0 y1 y2 y3 y4 y5, LeO (standbyref55_Backlog.l0 k y0 y1 y2 y3 y4 y5) (standbyref55_Backlog.l0 (k + 1) y0 y1 y2 y3 y4 y5))
 | 0 => fun _ _ _ _ _ _ r h => by simp [standbyref55_Backlog.l0] at h
 | k + 1 => by
  have ih0 := standbyref55_Backlog.mono_l k
  ·intro y0 y1 y2 y3 y4 y5
   unfold standbyref55_Backlog.l0
   repeat' first
   | (with_reducible exact ih0 _ _ _ _ _ _)
   | (with_reducible exact standbyref55_pair.mono _ _ _ _ _)
   | (with_reducible exact LeO.refl _)
   | (with_reducible exact LeO.none _)
   | (with_reducible refine LeO.ite ?_ ?_)
   | (with_reducible refine LeO.bind ?_ (fun _ => ?_))
   | exact ih0 _ _ _ _ _ _
   | exact standbyref55_pair.mono _ _ _ _ _
   | exact LeO.none _
   | refine LeO.ite ?_ ?_
   | refine LeO.bind ?_ (fun _ => ?_)
theorem standbyref55_Backlog.mono : ∀ a0 a1 a2 a3 k, LeO (standbyref55_Backlog.f k a0 a1 a2 a3) (standbyref55_Backlog.f (k + 1) a0 a1 a2 a3) := by
 intro a0 a1 a2 a3 k
 have ih0 := standbyref55_Backlog.mono_l k
 unfold standbyref55_Backlog.f
 repeat' first
   | (with_reducible exact ih0 _ _ _ _ _ _)
   | (with_reducible exact standbyref55_pair.mono _ _ _ _ _)
   | (with_reducible exact LeO.refl _)
   | (with_reducible exact LeO.none _)
   | (with_reducible refine LeO.ite ?_ ?_)
   | (with_reducible refine LeO.bind ?_ (fun _ => ?_))
   | exact ih0 _ _ _ _ _ _
   | exact standbyref55_pair.mono _ _ _ _ _
   | exact LeO.none _
   | refine LeO.ite ?_ ?_
   | refine LeO.bind ?_ (fun _ => ?_)
def standbyref55_Backlog.T10 : Bool × List (List Nat × List Nat) := (true, [([], []), ([], []), ([], []), ([1, 2], [1, 2]), ([], []), ([], []), ([4, 5, 3], [4, 5]), ([3, 6], [3, 6]), ([0, 7], [0, 7]), ([8, 6, 0, 1, 2, 3, 4, 5, 6, 7, 8], [0, 8])])
def standbyref55_Backlog.B10 : List Nat := [0, 0, 0, 6, 0, 0, 62, 126, 255, 511]
theorem standbyref55_Backlog.tab10 : rtab .any (opsOf Try.f27 10) = standbyref55_Backlog.T10 := by kernel_rfl
theorem standbyref55_Backlog.bits10 : waitsOk standbyref55_Backlog.T10.2 standbyref55_Backlog.B10 = true := by kernel_rfl
set_option maxHeartbeats 8000000 in
set_option maxRecDepth 100000 in
theorem standbyref55_Backlog.calls (k : Nat) (A0_0 : Option Addr) (c0_0 : Nat) (l0_0 : List Int) (a0_1 : Int) (A1_0 : Option Addr) (c1_0 : Nat) (l1_0 : List Int) (a1_1 : Int) (r1 : Int) (r2 : Int) (w : World) (hr0_0 : Kd.C (Kd.int .i64) w A0_0 l0_0.length l0_0) (hc0_0 : l0_0.length ≤ c0_0) (hr1_0 : Kd.C (Kd.int .i64) w A1_0 l1_0.length l1_0) (hc1_0 : l1_0.length ≤ c1_0) (h : standbyref55_Backlog.f k l0_0 a0_1 l1_0 a1_1 = some (r1, r2)) :
  Calls Try.prog 27 #[.agg #[.slice A0_0 l0_0.length c0_0, .int .i64 a0_1], .agg #[.slice A1_0 l1_0.length c1_0, .int .i64 a1_1]] w fun e w' => e = .returned (.tuple #[.int .i64 r1, .int .i64 r2]) ∧ Below w.heap.size w w' := by
 have hu24 := Try.underlying24
 have HR0_0 := Aside0.mk hr0_0
 have HC0_0 := Aside0.mk hc0_0
 clear hr0_0 hc0_0
 have HR1_0 := Aside0.mk hr1_0
 have HC1_0 := Aside0.mk hc1_0
 clear hr1_0 hc1_0
 have HB := Aside0.mk (Below.refl w.heap.size w)
 have H : ((standbyref55_pair.f k l0_0 a0_1 l1_0 a1_1).bind fun t295 => (if t295 = 0 then (if a0_1 > a1_1 then (some (0, 21)) else (standbyref55_Backlog.l0 k 0 0 l0_0 a0_1 l1_0 a1_1)) else (some (0, t295)))) = some (r1, r2) := h
 clear h
 replace H := Option.bind_eq_some_iff.mp H
 obtain ⟨t295, A30, H⟩ := H
 replace H : (if t295 = 0 then (if a0_1 > a1_1 then (some (0, 21)) else (standbyref55_Backlog.l0 k 0 0 l0_0 a0_1 l1_0 a1_1)) else (some (0, t295))) = some (r1, r2) := H
 have A3 := Aside0.mk A30
 clear A30
 by_cases c4 : t295 = 0
 case neg =>
  rw [if_neg c4] at H
  have c4b0 : (t295 == 0) = false := beq_eq_false_iff_ne.mpr c4
  have c4b1 : (t295 != 0) = true := bne_iff_ne.mpr c4
  simp only [Option.some.injEq, Prod.mk.injEq] at H
  obtain ⟨rfl, rfl⟩ := H
  go_enter Try.func27, Try.ntmps27
  go_wp2_with (first | ((with_reducible refine gate_dst (N := 2) rfl ?_); refine box_event ?hg (N := 2) ?hd (cs := #[.slice A0_0 l0_0.length c0_0, .int .i64 a0_1]) (t := 24) ?hr ?_; (case hd => rfl); (case hg => rfl); (case hr => first | (go_simp; done) | (go_simp; rfl)); intro gb293 hg w36 hbox hb; have n0_ := Aside0.mk (below_step (qW HB.out) hb); have n1_ := Aside0.mk (hbox); have n2_ := Aside0.mk ((by rw [hg]; exact (below_size (qW HB.out)) : w.heap.size ≤ gb293)); have n3_ := Aside0.mk ((by rw [hg]; exact (below_size (qW HB.out)) : w.heap.size ≤ gb293)); clear HB; have HB := n0_; have BK293 := n1_; have GW293 := n2_; have GE293 := n3_; clear n0_ n1_ n2_ n3_ hb hbox hg) | ((with_reducible refine gate_dst (N := 3) rfl ?_); refine box_event ?hg (N := 3) ?hd (cs := #[.slice A1_0 l1_0.length c1_0, .int .i64 a1_1]) (t := 24) ?hr ?_; (case hd => rfl); (case hg => rfl); (case hr => first | (go_simp; done) | (go_simp; rfl)); intro gb294 hg w37 hbox hb; have n0_ := Aside0.mk (blk_below (qB BK293.out) hb); have n1_ := Aside0.mk (below_step (qW HB.out) hb); have n2_ := Aside0.mk (hbox); have n3_ := Aside0.mk ((by rw [hg]; exact (below_size (qW HB.out)) : w.heap.size ≤ gb294)); have n4_ := Aside0.mk ((by rw [hg]; exact (below_size (qW HB.out)) : w.heap.size ≤ gb294)); have n5_ := Aside0.mk ((by rw [hg]; exact Nat.ne_of_lt (blk_lt (qB BK293.out)) : gb293 ≠ gb294)); have n6_ := Aside0.mk ((by rw [hg]; exact Nat.ne_of_gt (blk_lt (qB BK293.out)) : gb294 ≠ gb293)); clear BK293 HB; have BK293 := n0_; have HB := n1_; have BK294 := n2_; have GW294 := n3_; have GE294 := n4_; have NB293_294 := n5_; have NB294_293 := n6_; clear n0_ n1_ n2_ n3_ n4_ n5_ n6_ hb hbox hg; have hnb38 := NB293_294.out; have hnc38 := NB294_293.out; have hcz39_0 : w37.cell? ⟨gb293, 0, none⟩ = some (.slice A0_0 l0_0.length c0_0) := (blk_cell BK293.out 0).trans rfl; have hcz39_1 : w37.cell? ⟨gb293, 1, none⟩ = some (.int .i64 a0_1) := (blk_cell BK293.out 1).trans rfl; have hfz39_0 := blk_frozen BK293.out 0; have hfz39_1 := blk_frozen BK293.out 1; have hcz40_0 : w37.cell? ⟨gb294, 0, none⟩ = some (.slice A1_0 l1_0.length c1_0) := (blk_cell BK294.out 0).trans rfl; have hcz40_1 : w37.cell? ⟨gb294, 1, none⟩ = some (.int .i64 a1_1) := (blk_cell BK294.out 1).trans rfl; have hfz40_0 := blk_frozen BK294.out 0; have hfz40_1 := blk_frozen BK294.out 1) | ((with_reducible refine gate_callee (f := 51) rfl ?_); refine goesL_ (some 11) rfl rfl Try.func51 (by kernel_rfl) rfl #[.agg #[.slice A0_0 l0_0.length c0_0, .int .i64 a0_1], .agg #[.slice A1_0 l1_0.length c1_0, .int .i64 a1_1]] rfl (by (try simp only [List.map_toArray, List.map_cons, List.map_nil]); first | done | rfl | (simp only [List.length_drop, List.length_take]; rfl)) ?_; (with_reducible refine (standbyref55_pair.calls k _ _ l0_0 a0_1 _ _ l1_0 a1_1 t295 _ ?side1 ?side2 ?side3 ?side4 A3.out).mono ?_); (case side1 => exact qC HR0_0.out HB.out); (case side2 => exact HC0_0.out); (case side3 => exact qC HR1_0.out HB.out); (case side4 => exact HC1_0.out); rintro e w41 ⟨rfl, hb⟩; refine ⟨_, rfl, ?_⟩; have n0_ := Aside0.mk (blk_below (qB BK293.out) hb); have n1_ := Aside0.mk (blk_below (qB BK294.out) hb); have n2_ := Aside0.mk (below_step (qW HB.out) hb); clear BK293 BK294 HB; have BK293 := n0_; have BK294 := n1_; have HB := n2_; clear n0_ n1_ n2_; (try clear hb); (try clear hb2); (try clear hk); (try clear hi)))
  go_ret2
  exact ⟨by first | rfl | (simp [errW_none, errW_some] <;> rfl) | (simp [*, errW_none, errW_some] <;> rfl), by repeat (first | (with_reducible first | exact HB.out | apply below_alloc | apply pw_below_drewN | apply below_drew1 | refine below_set ?_ GE293.out | refine below_set ?_ GE294.out) | exact HB.out)⟩

 rw [if_pos c4] at H
 have c4b0 : (t295 == 0) = true := beq_iff_eq.mpr c4
 have c4b1 : (t295 != 0) = false := bne_eq_false_iff_eq.mpr c4
 clear c4
 by_cases c5 : a0_1 > a1_1
 ·rw [if_pos c5] at H
  have c5b0 : decide (a1_1 < a0_1) = true := decide_eq_true c5
  clear c5
  simp only [Option.some.injEq, Prod.mk.injEq] at H
  obtain ⟨rfl, rfl⟩ := H
  go_enter Try.func27, Try.ntmps27
  go_wp2_with (first | ((with_reducible refine gate_dst (N := 2) rfl ?_); refine box_event ?hg (N := 2) ?hd (cs := #[.slice A0_0 l0_0.length c0_0, .int .i64 a0_1]) (t := 24) ?hr ?_; (case hd => rfl); (case hg => rfl); (case hr => first | (go_simp; done) | (go_simp; rfl)); intro gb293 hg w6 hbox hb; have n0_ := Aside0.mk (below_step (qW HB.out) hb); have n1_ := Aside0.mk (hbox); have n2_ := Aside0.mk ((by rw [hg]; exact (below_size (qW HB.out)) : w.heap.size ≤ gb293)); have n3_ := Aside0.mk ((by rw [hg]; exact (below_size (qW HB.out)) : w.heap.size ≤ gb293)); clear HB; have HB := n0_; have BK293 := n1_; have GW293 := n2_; have GE293 := n3_; clear n0_ n1_ n2_ n3_ hb hbox hg) | ((with_reducible refine gate_dst (N := 3) rfl ?_); refine box_event ?hg (N := 3) ?hd (cs := #[.slice A1_0 l1_0.length c1_0, .int .i64 a1_1]) (t := 24) ?hr ?_; (case hd => rfl); (case hg => rfl); (case hr => first | (go_simp; done) | (go_simp; rfl)); intro gb294 hg w7 hbox hb; have n0_ := Aside0.mk (blk_below (qB BK293.out) hb); have n1_ := Aside0.mk (below_step (qW HB.out) hb); have n2_ := Aside0.mk (hbox); have n3_ := Aside0.mk ((by rw [hg]; exact (below_size (qW HB.out)) : w.heap.size ≤ gb294)); have n4_ := Aside0.mk ((by rw [hg]; exact (below_size (qW HB.out)) : w.heap.size ≤ gb294)); have n5_ := Aside0.mk ((by rw [hg]; exact Nat.ne_of_lt (blk_lt (qB BK293.out)) : gb293 ≠ gb294)); have n6_ := Aside0.mk ((by rw [hg]; exact Nat.ne_of_gt (blk_lt (qB BK293.out)) : gb294 ≠ gb293)); clear BK293 HB; have BK293 := n0_; have HB := n1_; have BK294 := n2_; have GW294 := n3_; have GE294 := n4_; have NB293_294 := n5_; have NB294_293 := n6_; clear n0_ n1_ n2_ n3_ n4_ n5_ n6_ hb hbox hg; have hnb8 := NB293_294.out; have hnc8 := NB294_293.out; have hcz9_0 : w7.cell? ⟨gb293, 0, none⟩ = some (.slice A0_0 l0_0.length c0_0) := (blk_cell BK293.out 0).trans rfl; have hcz9_1 : w7.cell? ⟨gb293, 1, none⟩ = some (.int .i64 a0_1) := (blk_cell BK293.out 1).trans rfl; have hfz9_0 := blk_frozen BK293.out 0; have hfz9_1 := blk_frozen BK293.out 1; have hcz10_0 : w7.cell? ⟨gb294, 0, none⟩ = some (.slice A1_0 l1_0.length c1_0) := (blk_cell BK294.out 0).trans rfl; have hcz10_1 : w7.cell? ⟨gb294, 1, none⟩ = some (.int .i64 a1_1) := (blk_cell BK294.out 1).trans rfl; have hfz10_0 := blk_frozen BK294.out 0; have hfz10_1 := blk_frozen BK294.out 1) | ((with_reducible refine gate_callee (f := 51) rfl ?_); refine goesL_ (some 11) rfl rfl Try.func51 (by kernel_rfl) rfl #[.agg #[.slice A0_0 l0_0.length c0_0, .int .i64 a0_1], .agg #[.slice A1_0 l1_0.length c1_0, .int .i64 a1_1]] rfl (by (try simp only [List.map_toArray, List.map_cons, List.map_nil]); first | done | rfl | (simp only [List.length_drop, List.length_take]; rfl)) ?_; (with_reducible refine (standbyref55_pair.calls k _ _ l0_0 a0_1 _ _ l1_0 a1_1 t295 _ ?side1 ?side2 ?side3 ?side4 A3.out).mono ?_); (case side1 => exact qC HR0_0.out HB.out); (case side2 => exact HC0_0.out); (case side3 => exact qC HR1_0.out HB.out); (case side4 => exact HC1_0.out); rintro e w11 ⟨rfl, hb⟩; refine ⟨_, rfl, ?_⟩; have n0_ := Aside0.mk (blk_below (qB BK293.out) hb); have n1_ := Aside0.mk (blk_below (qB BK294.out) hb); have n2_ := Aside0.mk (below_step (qW HB.out) hb); clear BK293 BK294 HB; have BK293 := n0_; have BK294 := n1_; have HB := n2_; clear n0_ n1_ n2_; (try clear hb); (try clear hb2); (try clear hk); (try clear hi); have hcz12_0 : w11.cell? ⟨gb293, 0, none⟩ = some (.slice A0_0 l0_0.length c0_0) := (blk_cell BK293.out 0).trans rfl; have hcz12_1 : w11.cell? ⟨gb293, 1, none⟩ = some (.int .i64 a0_1) := (blk_cell BK293.out 1).trans rfl; have hfz12_0 := blk_frozen BK293.out 0; have hfz12_1 := blk_frozen BK293.out 1; have hcz13_0 : w11.cell? ⟨gb294, 0, none⟩ = some (.slice A1_0 l1_0.length c1_0) := (blk_cell BK294.out 0).trans rfl; have hcz13_1 : w11.cell? ⟨gb294, 1, none⟩ = some (.int .i64 a1_1) := (blk_cell BK294.out 1).trans rfl; have hfz13_0 := blk_frozen BK294.out 0; have hfz13_1 := blk_frozen BK294.out 1))
  go_ret2
  exact ⟨by first | rfl | (simp [errW_none, errW_some] <;> rfl) | (simp [*, errW_none, errW_some] <;> rfl), by repeat (first | (with_reducible first | exact HB.out | apply below_alloc | apply pw_below_drewN | apply below_drew1 | refine below_set ?_ GE293.out | refine below_set ?_ GE294.out) | exact HB.out)⟩
 ·rw [if_neg c5] at H
  have c5b0 : decide (a1_1 < a0_1) = false := decide_eq_false c5
  clear c5
  have H' := Aside0.mk H
  clear H
  go_enter Try.func27, Try.ntmps27
  go_wp2_with (first | ((with_reducible refine gate_dst (N := 2) rfl ?_); refine box_event ?hg (N := 2) ?hd (cs := #[.slice A0_0 l0_0.length c0_0, .int .i64 a0_1]) (t := 24) ?hr ?_; (case hd => rfl); (case hg => rfl); (case hr => first | (go_simp; done) | (go_simp; rfl)); intro gb293 hg w14 hbox hb; have n0_ := Aside0.mk (below_step (qW HB.out) hb); have n1_ := Aside0.mk (hbox); have n2_ := Aside0.mk ((by rw [hg]; exact (below_size (qW HB.out)) : w.heap.size ≤ gb293)); have n3_ := Aside0.mk ((by rw [hg]; exact (below_size (qW HB.out)) : w.heap.size ≤ gb293)); clear HB; have HB := n0_; have BK293 := n1_; have GW293 := n2_; have GE293 := n3_; clear n0_ n1_ n2_ n3_ hb hbox hg) | ((with_reducible refine gate_dst (N := 3) rfl ?_); refine box_event ?hg (N := 3) ?hd (cs := #[.slice A1_0 l1_0.length c1_0, .int .i64 a1_1]) (t := 24) ?hr ?_; (case hd => rfl); (case hg => rfl); (case hr => first | (go_simp; done) | (go_simp; rfl)); intro gb294 hg w15 hbox hb; have n0_ := Aside0.mk (blk_below (qB BK293.out) hb); have n1_ := Aside0.mk (below_step (qW HB.out) hb); have n2_ := Aside0.mk (hbox); have n3_ := Aside0.mk ((by rw [hg]; exact (below_size (qW HB.out)) : w.heap.size ≤ gb294)); have n4_ := Aside0.mk ((by rw [hg]; exact (below_size (qW HB.out)) : w.heap.size ≤ gb294)); have n5_ := Aside0.mk ((by rw [hg]; exact Nat.ne_of_lt (blk_lt (qB BK293.out)) : gb293 ≠ gb294)); have n6_ := Aside0.mk ((by rw [hg]; exact Nat.ne_of_gt (blk_lt (qB BK293.out)) : gb294 ≠ gb293)); clear BK293 HB; have BK293 := n0_; have HB := n1_; have BK294 := n2_; have GW294 := n3_; have GE294 := n4_; have NB293_294 := n5_; have NB294_293 := n6_; clear n0_ n1_ n2_ n3_ n4_ n5_ n6_ hb hbox hg; have hnb16 := NB293_294.out; have hnc16 := NB294_293.out; have hcz17_0 : w15.cell? ⟨gb293, 0, none⟩ = some (.slice A0_0 l0_0.length c0_0) := (blk_cell BK293.out 0).trans rfl; have hcz17_1 : w15.cell? ⟨gb293, 1, none⟩ = some (.int .i64 a0_1) := (blk_cell BK293.out 1).trans rfl; have hfz17_0 := blk_frozen BK293.out 0; have hfz17_1 := blk_frozen BK293.out 1; have hcz18_0 : w15.cell? ⟨gb294, 0, none⟩ = some (.slice A1_0 l1_0.length c1_0) := (blk_cell BK294.out 0).trans rfl; have hcz18_1 : w15.cell? ⟨gb294, 1, none⟩ = some (.int .i64 a1_1) := (blk_cell BK294.out 1).trans rfl; have hfz18_0 := blk_frozen BK294.out 0; have hfz18_1 := blk_frozen BK294.out 1) | ((with_reducible refine gate_callee (f := 51) rfl ?_); refine goesL_ (some 11) rfl rfl Try.func51 (by kernel_rfl) rfl #[.agg #[.slice A0_0 l0_0.length c0_0, .int .i64 a0_1], .agg #[.slice A1_0 l1_0.length c1_0, .int .i64 a1_1]] rfl (by (try simp only [List.map_toArray, List.map_cons, List.map_nil]); first | done | rfl | (simp only [List.length_drop, List.length_take]; rfl)) ?_; (with_reducible refine (standbyref55_pair.calls k _ _ l0_0 a0_1 _ _ l1_0 a1_1 t295 _ ?side1 ?side2 ?side3 ?side4 A3.out).mono ?_); (case side1 => exact qC HR0_0.out HB.out); (case side2 => exact HC0_0.out); (case side3 => exact qC HR1_0.out HB.out); (case side4 => exact HC1_0.out); rintro e w19 ⟨rfl, hb⟩; refine ⟨_, rfl, ?_⟩; have n0_ := Aside0.mk (blk_below (qB BK293.out) hb); have n1_ := Aside0.mk (blk_below (qB BK294.out) hb); have n2_ := Aside0.mk (below_step (qW HB.out) hb); clear BK293 BK294 HB; have BK293 := n0_; have BK294 := n1_; have HB := n2_; clear n0_ n1_ n2_; (try clear hb); (try clear hb2); (try clear hk); (try clear hi); have hcz20_0 : w19.cell? ⟨gb293, 0, none⟩ = some (.slice A0_0 l0_0.length c0_0) := (blk_cell BK293.out 0).trans rfl; have hcz20_1 : w19.cell? ⟨gb293, 1, none⟩ = some (.int .i64 a0_1) := (blk_cell BK293.out 1).trans rfl; have hfz20_0 := blk_frozen BK293.out 0; have hfz20_1 := blk_frozen BK293.out 1; have hcz21_0 : w19.cell? ⟨gb294, 0, none⟩ = some (.slice A1_0 l1_0.length c1_0) := (blk_cell BK294.out 0).trans rfl; have hcz21_1 : w19.cell? ⟨gb294, 1, none⟩ = some (.int .i64 a1_1) := (blk_cell BK294.out 1).trans rfl; have hfz21_0 := blk_frozen BK294.out 0; have hfz21_1 := blk_frozen BK294.out 1))
  go_loopg [7, 8] k (fun kq v7 v8 w' => ∃ (x7_1 : Int) (x8_1 : Int), v7 = .int .i64 x7_1 ∧ v8 = .int .i64 x8_1 ∧ Aside0 (standbyref55_Backlog.l0 kq x7_1 x8_1 l0_0 a0_1 l1_0 a1_1 = some (r1, r2)) ∧ Aside0 (kq ≤ k) ∧ Aside0 (w'.heap[gb293]? = some (.cells #[(.slice A0_0 l0_0.length c0_0), .int .i64 a0_1] 24 (0, 0))) ∧ Aside0 (w'.heap[gb294]? = some (.cells #[(.slice A1_0 l1_0.length c1_0), .int .i64 a1_1] 24 (0, 0))) ∧ Aside0 (Below w.heap.size w w'))
  case atStart => exact ⟨(0), (0), (by first | rfl | (simp; done) | (simp [*]; done)), (by first | rfl | (simp; done) | (simp [*]; done)), H', ⟨Nat.le_refl _⟩, ⟨by exact qB BK293.out⟩, ⟨by exact qB BK294.out⟩, ⟨by repeat (first | (with_reducible first | exact HB.out | apply below_alloc | apply pw_below_drewN | apply below_drew1 | refine below_set ?_ GE293.out | refine below_set ?_ GE294.out) | exact HB.out)⟩⟩
  case round =>
   clear H'
   try clear c1
   try clear c2
   try clear p2
   try clear c4
   try clear c4b0
   try clear c4b1
   try clear c5
   try clear c5b0
   try clear c8
   try clear c16
   try clear hcz10_0
   try clear hcz10_1
   try clear hcz12_0
   try clear hcz12_1
   try clear hcz13_0
   try clear hcz13_1
   try clear hcz17_0
   try clear hcz17_1
   try clear hcz18_0
   try clear hcz18_1
   try clear hcz20_0
   try clear hcz20_1
   try clear hcz21_0
   try clear hcz21_1
   try clear hcz9_0
   try clear hcz9_1
   try clear hfz10_0
   try clear hfz10_1
   try clear hfz12_0
   try clear hfz12_1
   try clear hfz13_0
   try clear hfz13_1
   try clear hfz17_0
   try clear hfz17_1
   try clear hfz18_0
   try clear hfz18_1
   try clear hfz20_0
   try clear hfz20_1
   try clear hfz21_0
   try clear hfz21_1
   try clear hfz9_0
   try clear hfz9_1
   obtain ⟨x7_1, x8_1, rfl, rfl, HA, HK1, BK293, BK294, HB⟩ := hrel
   cases gk with
   | zero => exact absurd HA.out (by simp [standbyref55_Backlog.l0])
   | succ k1 =>
    have H := HA.out
    clear HA
    simp only [standbyref55_Backlog.l0] at H
    obtain ⟨ji22, hji22⟩ : ∃ j_ : Int, (mx (l0_0.length : Int) (l1_0.length : Int)) = j_ := ⟨_, rfl⟩
    replace H : (if x8_1 < (ji22) then ((standbyref55_value.f l0_0 a0_1 x8_1).bind fun t296 => ((standbyref55_value.f l1_0 a1_1 x8_1).bind fun t297 => (standbyref55_Backlog.l0 k1 (mx x7_1 (wrap64 (t296 - t297))) (wrap64 (x8_1 + 1)) l0_0 a0_1 l1_0 a1_1))) else (some (x7_1, 0))) = some (r1, r2) := by first | (rw [hji22] at H; exact H) | (simp only [hji22] at H ⊢; exact H)
    (try (have hji22l : 0 ≤ ji22 := by (rw [← hji22]; unfold mx; (repeat' split) <;> omega)))
    (try (have hji22m : 0 ≤ ji22 := by omega))
    have hji22_ : (if (l0_0.length : Int) < (l1_0.length : Int) then (l1_0.length : Int) else (l0_0.length : Int)) = ji22 := hji22
    have hji22n : (if l0_0.length < l1_0.length then (l1_0.length : Int) else (l0_0.length : Int)) = ji22 := by rw [← hji22]; unfold mx; simp only [Int.ofNat_lt]
    by_cases c23 : x8_1 < (ji22)
    case neg =>
     rw [if_neg c23] at H
     have c23b0 : decide (x8_1 < (ji22)) = false := decide_eq_false c23
     clear c23
     simp only [Option.some.injEq, Prod.mk.injEq] at H
     obtain ⟨rfl, rfl⟩ := H
     have hnb33 := NB293_294.out
     have hnc33 := NB294_293.out
     have hcz34_0 : wr.cell? ⟨gb293, 0, none⟩ = some (.slice A0_0 l0_0.length c0_0) := (blk_cell BK293.out 0).trans rfl
     have hcz34_1 : wr.cell? ⟨gb293, 1, none⟩ = some (.int .i64 a0_1) := (blk_cell BK293.out 1).trans rfl
     have hfz34_0 := blk_frozen BK293.out 0
     have hfz34_1 := blk_frozen BK293.out 1
     have hcz35_0 : wr.cell? ⟨gb294, 0, none⟩ = some (.slice A1_0 l1_0.length c1_0) := (blk_cell BK294.out 0).trans rfl
     have hcz35_1 : wr.cell? ⟨gb294, 1, none⟩ = some (.int .i64 a1_1) := (blk_cell BK294.out 1).trans rfl
     have hfz35_0 := blk_frozen BK294.out 0
     have hfz35_1 := blk_frozen BK294.out 1
     go_wp2
     go_ret2
     exact ⟨by first | rfl | (simp [errW_none, errW_some] <;> rfl) | (simp only [← hji22]; first | rfl | (simp [errW_none, errW_some] <;> rfl)) | (simp [*, errW_none, errW_some] <;> rfl), by repeat (first | (with_reducible first | exact HB.out | apply below_alloc | apply pw_below_drewN | apply below_drew1 | refine below_set ?_ GE293.out | refine below_set ?_ GE294.out) | exact HB.out)⟩
    rw [if_pos c23] at H
    have c23b0 : decide (x8_1 < (ji22)) = true := decide_eq_true c23
    clear c23
    replace H := Option.bind_eq_some_iff.mp H
    obtain ⟨t296, A240, H⟩ := H
    replace H : ((standbyref55_value.f l1_0 a1_1 x8_1).bind fun t297 => (standbyref55_Backlog.l0 k1 (mx x7_1 (wrap64 (t296 - t297))) (wrap64 (x8_1 + 1)) l0_0 a0_1 l1_0 a1_1)) = some (r1, r2) := H
    have A24 := Aside0.mk A240
    clear A240
    replace H := Option.bind_eq_some_iff.mp H
    obtain ⟨t297, A250, H⟩ := H
    replace H : (standbyref55_Backlog.l0 k1 (mx x7_1 (wrap64 (t296 - t297))) (wrap64 (x8_1 + 1)) l0_0 a0_1 l1_0 a1_1) = some (r1, r2) := H
    have A25 := Aside0.mk A250
    clear A250
    obtain ⟨ji26, hji26⟩ : ∃ j_ : Int, (mx x7_1 (wrap64 (t296 - t297))) = j_ := ⟨_, rfl⟩
    replace H : (standbyref55_Backlog.l0 k1 ji26 (wrap64 (x8_1 + 1)) l0_0 a0_1 l1_0 a1_1) = some (r1, r2) := by first | (rw [hji26] at H; exact H) | (simp only [hji26] at H ⊢; exact H)
    (try rw [hji26] at A24)
    (try rw [hji26] at A25)
    have hji26_ : (if x7_1 < (wrap64 (t296 - t297)) then (wrap64 (t296 - t297)) else x7_1) = ji26 := hji26
    have H' := Aside0.mk H
    clear H
    have hnb27 := NB293_294.out
    have hnc27 := NB294_293.out
    have hcz28_0 : wr.cell? ⟨gb293, 0, none⟩ = some (.slice A0_0 l0_0.length c0_0) := (blk_cell BK293.out 0).trans rfl
    have hcz28_1 : wr.cell? ⟨gb293, 1, none⟩ = some (.int .i64 a0_1) := (blk_cell BK293.out 1).trans rfl
    have hfz28_0 := blk_frozen BK293.out 0
    have hfz28_1 := blk_frozen BK293.out 1
    have hcz29_0 : wr.cell? ⟨gb294, 0, none⟩ = some (.slice A1_0 l1_0.length c1_0) := (blk_cell BK294.out 0).trans rfl
    have hcz29_1 : wr.cell? ⟨gb294, 1, none⟩ = some (.int .i64 a1_1) := (blk_cell BK294.out 1).trans rfl
    have hfz29_0 := blk_frozen BK294.out 0
    have hfz29_1 := blk_frozen BK294.out 1
    try go_wp2
    have n0_ := Aside0.mk (blk_drew BK293.out)
    have n1_ := Aside0.mk (blk_drew BK294.out)
    have n2_ := Aside0.mk (below_drew1 HB.out)
    clear BK293 BK294 HB
    have BK293 := n0_
    have BK294 := n1_
    have HB := n2_
    clear n0_ n1_ n2_
    refine start_ (n := 10) (S := fun w' => w'.cell? ⟨gb293, 0, none⟩ = some (.slice A0_0 l0_0.length c0_0) ∧ w'.cell? ⟨gb293, 1, none⟩ = some (.int .i64 a0_1) ∧ w'.cell? ⟨gb294, 0, none⟩ = some (.slice A1_0 l1_0.length c1_0) ∧ w'.cell? ⟨gb294, 1, none⟩ = some (.int .i64 a1_1)) (ds := []) #[false, false, false, false, false, false, false, false, false, false] (by kernel_rfl) rfl rfl ⟨(blk_cell BK293.out 0).trans rfl, (blk_cell BK293.out 1).trans rfl, (blk_cell BK294.out 0).trans rfl, (blk_cell BK294.out 1).trans rfl⟩ (fun hHeld => ?_); refine with_tabW standbyref55_Backlog.tab10 standbyref55_Backlog.bits10 (fun HT_ HW_ => ?_)
    generalize wr.drew = w30 at BK293 BK294 HB hHeld ⊢
    refine pS (i := 0) (N := some 31) #[true, false, false, false, false, false, false, false, false, false] rfl rfl HT_.out ?_
    refine pS (i := 2) (N := some 33) #[true, false, true, false, false, false, false, false, false, false] rfl rfl HT_.out ?_
    refine pS (i := 5) (N := some 36) #[true, false, true, false, false, true, false, false, false, false] rfl rfl HT_.out ?_
    refine take_ (i := 1) (N := some 32) (v := ?_) (a' := ?_) #[true, true, true, false, false, true, false, false, false, false] rfl rfl (take_ofW HT_.out HW_.out (by kernel_rfl)) (fun _ _ _ h => h) (Or.inl ⟨by rfl, ?_⟩) hHeld ?_ ?_; rotate_left
    ·rintro w' ⟨s0, s1, s2, s3⟩
     go_simp
     with_reducible rfl
    rotate_left
    ·simp only [Act.put, List.setIfInBounds_toArray, List.set_cons_zero, List.set_cons_succ, i64_w, i32_w]
     rfl
    refine take_ (i := 4) (N := some 35) (v := ?_) (a' := ?_) #[true, true, true, false, true, true, false, false, false, false] rfl rfl (take_ofW HT_.out HW_.out (by kernel_rfl)) (fun _ _ _ h => h) (Or.inl ⟨by rfl, ?_⟩) hHeld ?_ ?_; rotate_left
    ·rintro w' ⟨s0, s1, s2, s3⟩
     go_simp
     with_reducible rfl
    rotate_left
    ·simp only [Act.put, List.setIfInBounds_toArray, List.set_cons_zero, List.set_cons_succ, i64_w, i32_w]
     rfl
    refine one_ (i := 3) (N := some 34) #[true, true, true, true, true, true, false, false, false, false] rfl rfl (one_of HT_.out (by kernel_rfl)) (by decide) (fun K hK => ?_)
    refine goes_ Try.func45 (by kernel_rfl) rfl #[.agg #[.slice A0_0 l0_0.length c0_0, .int .i64 a0_1], .int .i64 x8_1] (by rfl) rfl rfl (by (try simp only [List.map_toArray, List.map_cons, List.map_nil]); first | done | rfl | (simp only [List.length_drop, List.length_take]; rfl)) ?_
    with_reducible refine (standbyref55_value.calls _ _ l0_0 a0_1 x8_1 t296 _ ?side1 ?side2 A24.out).mono ?_
    (case side1 => exact qC HR0_0.out HB.out)
    (case side2 => exact HC0_0.out)
    rintro e w31 ⟨rfl, hb⟩
    refine ⟨_, rfl, ?_⟩
    have n0_ := Aside0.mk (blk_below (qB BK293.out) hb)
    have n1_ := Aside0.mk (blk_below (qB BK294.out) hb)
    have n2_ := Aside0.mk (below_step (qW HB.out) hb)
    clear BK293 BK294 HB
    have BK293 := n0_
    have BK294 := n1_
    have HB := n2_
    clear n0_ n1_ n2_
    (try clear hb); (try clear hb2); (try clear hk); (try clear hi)
    refine hK.out _ _ ⟨(blk_cell BK293.out 0).trans rfl, (blk_cell BK293.out 1).trans rfl, (blk_cell BK294.out 0).trans rfl, (blk_cell BK294.out 1).trans rfl⟩ (fun hHeld => ?_); clear hK K
    refine norm_ (a' := ?_) ?_ ?_; rotate_left
    ·show Act.put _ (some 34) _ = _
     simp only [Act.put, List.setIfInBounds_toArray, List.set_cons_zero, List.set_cons_succ, i64_w, i32_w]
     rfl
    refine one_ (i := 6) (N := some 37) #[true, true, true, true, true, true, true, false, false, false] rfl rfl (one_of HT_.out (by kernel_rfl)) (by decide) (fun K hK => ?_)
    refine goes_ Try.func45 (by kernel_rfl) rfl #[.agg #[.slice A1_0 l1_0.length c1_0, .int .i64 a1_1], .int .i64 x8_1] (by rfl) rfl rfl (by (try simp only [List.map_toArray, List.map_cons, List.map_nil]); first | done | rfl | (simp only [List.length_drop, List.length_take]; rfl)) ?_
    with_reducible refine (standbyref55_value.calls _ _ l1_0 a1_1 x8_1 t297 _ ?side1 ?side2 A25.out).mono ?_
    (case side1 => exact qC HR1_0.out HB.out)
    (case side2 => exact HC1_0.out)
    rintro e w32 ⟨rfl, hb⟩
    refine ⟨_, rfl, ?_⟩
    have n0_ := Aside0.mk (blk_below (qB BK293.out) hb)
    have n1_ := Aside0.mk (blk_below (qB BK294.out) hb)
    have n2_ := Aside0.mk (below_step (qW HB.out) hb)
    clear BK293 BK294 HB
    have BK293 := n0_
    have BK294 := n1_
    have HB := n2_
    clear n0_ n1_ n2_
    (try clear hb); (try clear hb2); (try clear hk); (try clear hi)
    refine hK.out _ _ ⟨(blk_cell BK293.out 0).trans rfl, (blk_cell BK293.out 1).trans rfl, (blk_cell BK294.out 0).trans rfl, (blk_cell BK294.out 1).trans rfl⟩ (fun hHeld => ?_); clear hK K
    refine norm_ (a' := ?_) ?_ ?_; rotate_left
    ·show Act.put _ (some 37) _ = _
     simp only [Act.put, List.setIfInBounds_toArray, List.set_cons_zero, List.set_cons_succ, i64_w, i32_w]
     rfl
    refine pS (i := 7) (N := some 38) #[true, true, true, true, true, true, true, true, false, false] rfl rfl HT_.out ?_
    refine pS (i := 8) (N := some 39) #[true, true, true, true, true, true, true, true, true, false] rfl rfl HT_.out ?_
    refine pS (i := 9) (N := some 7) #[true, true, true, true, true, true, true, true, true, true] rfl rfl HT_.out ?_
    refine done_ (done_of HT_.out (by kernel_rfl)) ?_
    try go_wp2
    go_roundg k1
    case measure => have := HK1.out; omega
    case rel => exact ⟨(ji26), (wrap64 (x8_1 + 1)), (by first | rfl | (simp; done) | (simp only [← hji26] <;> (first | rfl | simp)) | (simp [*]; done)), (by first | rfl | (simp; done) | (simp [*]; done)), H', ⟨by have := HK1.out; omega⟩, ⟨by exact qB BK293.out⟩, ⟨by exact qB BK294.out⟩, ⟨by repeat (first | (with_reducible first | exact HB.out | apply below_alloc | apply pw_below_drewN | apply below_drew1 | refine below_set ?_ GE293.out | refine below_set ?_ GE294.out) | exact HB.out)⟩⟩
end Go.Proofs.Ytanlonngekgibaa.Pr

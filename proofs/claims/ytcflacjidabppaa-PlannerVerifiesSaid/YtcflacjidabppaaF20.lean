-- Written by pp.py, a program of this session, over the translation of the given program; a machine's text: Lean checks it.
import Derived.Test.YtcflacjidabppaaGShort
import Derived.Test.YtcflacjidabppaaF22
namespace Go.Proofs.Ytcflacjidabppaa.Pr
open Go.RowKit Go.Proofs.YtcflacjidabppaaW.PrintWords Go.Proofs.YtcflacjidabppaaW.PrintLast Go.Proofs.YtcflacjidabppaaW.PrintMore
attribute [local go_sem] max2_int min2_int max_two min_two max_three min_three max_four min_four   -- for this text's walks alone
set_option linter.unusedVariables false
set_option linter.unusedSimpArgs false

/-! ### standbyref56_Age: function 20 -/
mutual
def standbyref56_Age.j0 : Nat → Int → Bool → List Int → List Int → List Int → List Int → Int → Option (Int × Int)
 | 0, _, _, _, _, _, _, _ => none
 | k + 1, x2, x22, x272000, x272001, x272002, x272003, x272004 => if x22 = true then (some (0, 24)) else (standbyref56_Age.l0 k x2 x2 0 x272000 x272001 x272002 x272003 x272004)
def standbyref56_Age.l0 : Nat → Int → Int → Int → List Int → List Int → List Int → List Int → Int → Option (Int × Int)
 | 0, _, _, _, _, _, _, _, _ => none
 | k + 1, x2, x9, x10, x272000, x272001, x272002, x272003, x272004 => if x10 < (x272000.length : Int) then (if 0 ≤ x10 then (if x10 < (x272003.length : Int) then (if (rd x272003 x10) ≤ x2 then (standbyref56_Age.l0 k x2 (wrap64 (x2 - (rd x272000 x10))) (wrap64 (x10 + 1)) x272000 x272001 x272002 x272003 x272004) else (standbyref56_Age.l0 k x2 x9 (wrap64 (x10 + 1)) x272000 x272001 x272002 x272003 x272004)) else (none)) else (none)) else (some (x9, 0))
end
def standbyref56_Age.f (k : Nat) (l0_0 : List Int) (l0_1 : List Int) (a0_2 : Int) (a0_3 : Int) (a0_4 : Int) (l1_0 : List Int) (l1_1 : List Int) (l1_2 : List Int) (l1_3 : List Int) (a1_4 : Int) (a2 : Int) : Option (Int × Int) := (standbyref56_Verify.f k l0_0 l0_1 a0_2 a0_3 a0_4 l1_0 l1_1 l1_2 l1_3 a1_4).bind fun t272 => (if t272 = 0 then (if a2 < 0 then (standbyref56_Age.j0 k a2 true l1_0 l1_1 l1_2 l1_3 a1_4) else (standbyref56_Age.j0 k a2 (decide (a2 > 1073741824)) l1_0 l1_1 l1_2 l1_3 a1_4)) else (some (0, t272)))
theorem standbyref56_Age.mono_l : ∀ k, (∀ y0 y1 y2 y3 y4 y5 y6, LeO (standbyref56_Age.j0 k y0 y1 y2 y3 y4 y5 y6) (standbyref56_Age.j0 (k + 1) y0 y1 y2 y3 y4 y5 y6)) ∧ (∀ y0 y1 y2 y3 y4 y5 y6 y7, LeO (standbyref56_Age.l0 k y0 y1 y2 y3 y4 y5 y6 y7) (standbyref56_Age.l0 (k + 1) y0 y1 y2 y3 y4 y5 y6 y7))
 | 0 => ⟨fun _ _ _ _ _ _ _ r h => by simp [standbyref56_Age.j0] at h, fun _ _ _ _ _ _ _ _ r h => by simp [standbyref56_Age.l0] at h⟩
 | k + 1 => by
  obtain ⟨ih0, ih1⟩ := standbyref56_Age.mono_l k
  refine ⟨?_, ?_⟩
  ·intro y0 y1 y2 y3 y4 y5 y6
   unfold standbyref56_Age.j0
   repeat' first
   | (with_reducible exact ih0 _ _ _ _ _ _ _)
   | (with_reducible exact ih1 _ _ _ _ _ _ _ _)
   | (with_reducible exact standbyref56_Verify.mono _ _ _ _ _ _ _ _ _ _ _)
   | (with_reducible exact LeO.refl _)
   | (with_reducible exact LeO.none _)
   | (with_reducible refine LeO.ite ?_ ?_)
   | (with_reducible refine LeO.bind ?_ (fun _ => ?_))
   | exact ih0 _ _ _ _ _ _ _
   | exact ih1 _ _ _ _ _ _ _ _
   | exact standbyref56_Verify.mono _ _ _ _ _ _ _ _ _ _ _
   | exact LeO.none _
   | refine LeO.ite ?_ ?_
   | refine LeO.bind ?_ (fun _ => ?_)
  ·intro y0 y1 y2 y3 y4 y5 y6 y7
   unfold standbyref56_Age.l0
   repeat' first
   | (with_reducible exact ih0 _ _ _ _ _ _ _)
   | (with_reducible exact ih1 _ _ _ _ _ _ _ _)
   | (with_reducible exact standbyref56_Verify.mono _ _ _ _ _ _ _ _ _ _ _)
   | (with_reducible exact LeO.refl _)
   | (with_reducible exact LeO.none _)
   | (with_reducible refine LeO.ite ?_ ?_)
   | (with_reducible refine LeO.bind ?_ (fun _ => ?_))
   | exact ih0 _ _ _ _ _ _ _
   | exact ih1 _ _ _ _ _ _ _ _
   | exact standbyref56_Verify.mono _ _ _ _ _ _ _ _ _ _ _
   | exact LeO.none _
   | refine LeO.ite ?_ ?_
   | refine LeO.bind ?_ (fun _ => ?_)
theorem standbyref56_Age.mono : ∀ a0 a1 a2 a3 a4 a5 a6 a7 a8 a9 a10 k, LeO (standbyref56_Age.f k a0 a1 a2 a3 a4 a5 a6 a7 a8 a9 a10) (standbyref56_Age.f (k + 1) a0 a1 a2 a3 a4 a5 a6 a7 a8 a9 a10) := by
 intro a0 a1 a2 a3 a4 a5 a6 a7 a8 a9 a10 k
 obtain ⟨ih0, ih1⟩ := standbyref56_Age.mono_l k
 unfold standbyref56_Age.f
 repeat' first
   | (with_reducible exact ih0 _ _ _ _ _ _ _)
   | (with_reducible exact ih1 _ _ _ _ _ _ _ _)
   | (with_reducible exact standbyref56_Verify.mono _ _ _ _ _ _ _ _ _ _ _)
   | (with_reducible exact LeO.refl _)
   | (with_reducible exact LeO.none _)
   | (with_reducible refine LeO.ite ?_ ?_)
   | (with_reducible refine LeO.bind ?_ (fun _ => ?_))
   | exact ih0 _ _ _ _ _ _ _
   | exact ih1 _ _ _ _ _ _ _ _
   | exact standbyref56_Verify.mono _ _ _ _ _ _ _ _ _ _ _
   | exact LeO.none _
   | refine LeO.ite ?_ ?_
   | refine LeO.bind ?_ (fun _ => ?_)
set_option maxHeartbeats 8000000 in
set_option maxRecDepth 100000 in
theorem standbyref56_Age.calls (k : Nat) (A0_0 : Option Addr) (c0_0 : Nat) (l0_0 : List Int) (A0_1 : Option Addr) (c0_1 : Nat) (l0_1 : List Int) (a0_2 : Int) (a0_3 : Int) (a0_4 : Int) (A1_0 : Option Addr) (c1_0 : Nat) (l1_0 : List Int) (A1_1 : Option Addr) (c1_1 : Nat) (l1_1 : List Int) (A1_2 : Option Addr) (c1_2 : Nat) (l1_2 : List Int) (A1_3 : Option Addr) (c1_3 : Nat) (l1_3 : List Int) (a1_4 : Int) (a2 : Int) (r1 : Int) (r2 : Int) (w : World) (hr0_0 : Kd.C (Kd.int .i64) w A0_0 l0_0.length l0_0) (hc0_0 : l0_0.length ≤ c0_0) (hr0_1 : Kd.C (Kd.int .i64) w A0_1 l0_1.length l0_1) (hc0_1 : l0_1.length ≤ c0_1) (hr1_0 : Kd.C (Kd.int .i64) w A1_0 l1_0.length l1_0) (hc1_0 : l1_0.length ≤ c1_0) (hr1_1 : Kd.C (Kd.int .i64) w A1_1 l1_1.length l1_1) (hc1_1 : l1_1.length ≤ c1_1) (hr1_2 : Kd.C (Kd.int .i64) w A1_2 l1_2.length l1_2) (hc1_2 : l1_2.length ≤ c1_2) (hr1_3 : Kd.C (Kd.int .i64) w A1_3 l1_3.length l1_3) (hc1_3 : l1_3.length ≤ c1_3) (h : standbyref56_Age.f k l0_0 l0_1 a0_2 a0_3 a0_4 l1_0 l1_1 l1_2 l1_3 a1_4 a2 = some (r1, r2)) :
  Calls Try.prog 20 #[.agg #[.slice A0_0 l0_0.length c0_0, .slice A0_1 l0_1.length c0_1, .int .i64 a0_2, .int .i64 a0_3, .int .i64 a0_4], .agg #[.slice A1_0 l1_0.length c1_0, .slice A1_1 l1_1.length c1_1, .slice A1_2 l1_2.length c1_2, .slice A1_3 l1_3.length c1_3, .int .i64 a1_4], .int .i64 a2] w fun e w' => e = .returned (.tuple #[.int .i64 r1, .int .i64 r2]) ∧ Below w.heap.size w w' := by
 have hu24 := Try.underlying24
 have hu28 := Try.underlying28
 have HR0_0 := Aside0.mk hr0_0
 have HC0_0 := Aside0.mk hc0_0
 clear hr0_0 hc0_0
 have HR0_1 := Aside0.mk hr0_1
 have HC0_1 := Aside0.mk hc0_1
 clear hr0_1 hc0_1
 have HR1_0 := Aside0.mk hr1_0
 have HC1_0 := Aside0.mk hc1_0
 clear hr1_0 hc1_0
 have HR1_1 := Aside0.mk hr1_1
 have HC1_1 := Aside0.mk hc1_1
 clear hr1_1 hc1_1
 have HR1_2 := Aside0.mk hr1_2
 have HC1_2 := Aside0.mk hc1_2
 clear hr1_2 hc1_2
 have HR1_3 := Aside0.mk hr1_3
 have HC1_3 := Aside0.mk hc1_3
 clear hr1_3 hc1_3
 have HB := Aside0.mk (Below.refl w.heap.size w)
 have H : ((standbyref56_Verify.f k l0_0 l0_1 a0_2 a0_3 a0_4 l1_0 l1_1 l1_2 l1_3 a1_4).bind fun t272 => (if t272 = 0 then (if a2 < 0 then (standbyref56_Age.j0 k a2 true l1_0 l1_1 l1_2 l1_3 a1_4) else (standbyref56_Age.j0 k a2 (decide (a2 > 1073741824)) l1_0 l1_1 l1_2 l1_3 a1_4)) else (some (0, t272)))) = some (r1, r2) := h
 clear h
 replace H := Option.bind_eq_some_iff.mp H
 obtain ⟨t272, A40, H⟩ := H
 replace H : (if t272 = 0 then (if a2 < 0 then (standbyref56_Age.j0 k a2 true l1_0 l1_1 l1_2 l1_3 a1_4) else (standbyref56_Age.j0 k a2 (decide (a2 > 1073741824)) l1_0 l1_1 l1_2 l1_3 a1_4)) else (some (0, t272))) = some (r1, r2) := H
 have A4 := Aside0.mk A40
 clear A40
 by_cases c5 : t272 = 0
 case neg =>
  rw [if_neg c5] at H
  have c5b0 : (t272 == 0) = false := beq_eq_false_iff_ne.mpr c5
  have c5b1 : (t272 != 0) = true := bne_iff_ne.mpr c5
  simp only [Option.some.injEq, Prod.mk.injEq] at H
  obtain ⟨rfl, rfl⟩ := H
  go_enter Try.func20, Try.ntmps20
  go_wp2_with (first | ((with_reducible refine gate_dst (N := 3) rfl ?_); refine box_event ?hg (N := 3) ?hd (cs := #[.slice A0_0 l0_0.length c0_0, .slice A0_1 l0_1.length c0_1, .int .i64 a0_2, .int .i64 a0_3, .int .i64 a0_4]) (t := 24) ?hr ?_; (case hd => rfl); (case hg => rfl); (case hr => first | (go_simp; done) | (go_simp; rfl)); intro gb270 hg w25 hbox hb; have n0_ := Aside0.mk (below_step (qW HB.out) hb); have n1_ := Aside0.mk (hbox); have n2_ := Aside0.mk ((by rw [hg]; exact (below_size (qW HB.out)) : w.heap.size ≤ gb270)); have n3_ := Aside0.mk ((by rw [hg]; exact (below_size (qW HB.out)) : w.heap.size ≤ gb270)); clear HB; have HB := n0_; have BK270 := n1_; have GW270 := n2_; have GE270 := n3_; clear n0_ n1_ n2_ n3_ hb hbox hg) | ((with_reducible refine gate_dst (N := 4) rfl ?_); refine box_event ?hg (N := 4) ?hd (cs := #[.slice A1_0 l1_0.length c1_0, .slice A1_1 l1_1.length c1_1, .slice A1_2 l1_2.length c1_2, .slice A1_3 l1_3.length c1_3, .int .i64 a1_4]) (t := 28) ?hr ?_; (case hd => rfl); (case hg => rfl); (case hr => first | (go_simp; done) | (go_simp; rfl)); intro gb271 hg w26 hbox hb; have n0_ := Aside0.mk (blk_below (qB BK270.out) hb); have n1_ := Aside0.mk (below_step (qW HB.out) hb); have n2_ := Aside0.mk (hbox); have n3_ := Aside0.mk ((by rw [hg]; exact (below_size (qW HB.out)) : w.heap.size ≤ gb271)); have n4_ := Aside0.mk ((by rw [hg]; exact (below_size (qW HB.out)) : w.heap.size ≤ gb271)); have n5_ := Aside0.mk ((by rw [hg]; exact Nat.ne_of_lt (blk_lt (qB BK270.out)) : gb270 ≠ gb271)); have n6_ := Aside0.mk ((by rw [hg]; exact Nat.ne_of_gt (blk_lt (qB BK270.out)) : gb271 ≠ gb270)); clear BK270 HB; have BK270 := n0_; have HB := n1_; have BK271 := n2_; have GW271 := n3_; have GE271 := n4_; have NB270_271 := n5_; have NB271_270 := n6_; clear n0_ n1_ n2_ n3_ n4_ n5_ n6_ hb hbox hg; have hnb27 := NB270_271.out; have hnc27 := NB271_270.out; have hcz28_0 : w26.cell? ⟨gb270, 0, none⟩ = some (.slice A0_0 l0_0.length c0_0) := (blk_cell BK270.out 0).trans rfl; have hcz28_1 : w26.cell? ⟨gb270, 1, none⟩ = some (.slice A0_1 l0_1.length c0_1) := (blk_cell BK270.out 1).trans rfl; have hcz28_2 : w26.cell? ⟨gb270, 2, none⟩ = some (.int .i64 a0_2) := (blk_cell BK270.out 2).trans rfl; have hcz28_3 : w26.cell? ⟨gb270, 3, none⟩ = some (.int .i64 a0_3) := (blk_cell BK270.out 3).trans rfl; have hcz28_4 : w26.cell? ⟨gb270, 4, none⟩ = some (.int .i64 a0_4) := (blk_cell BK270.out 4).trans rfl; have hfz28_0 := blk_frozen BK270.out 0; have hfz28_1 := blk_frozen BK270.out 1; have hfz28_2 := blk_frozen BK270.out 2; have hfz28_3 := blk_frozen BK270.out 3; have hfz28_4 := blk_frozen BK270.out 4; have hcz29_0 : w26.cell? ⟨gb271, 0, none⟩ = some (.slice A1_0 l1_0.length c1_0) := (blk_cell BK271.out 0).trans rfl; have hcz29_1 : w26.cell? ⟨gb271, 1, none⟩ = some (.slice A1_1 l1_1.length c1_1) := (blk_cell BK271.out 1).trans rfl; have hcz29_2 : w26.cell? ⟨gb271, 2, none⟩ = some (.slice A1_2 l1_2.length c1_2) := (blk_cell BK271.out 2).trans rfl; have hcz29_3 : w26.cell? ⟨gb271, 3, none⟩ = some (.slice A1_3 l1_3.length c1_3) := (blk_cell BK271.out 3).trans rfl; have hcz29_4 : w26.cell? ⟨gb271, 4, none⟩ = some (.int .i64 a1_4) := (blk_cell BK271.out 4).trans rfl; have hfz29_0 := blk_frozen BK271.out 0; have hfz29_1 := blk_frozen BK271.out 1; have hfz29_2 := blk_frozen BK271.out 2; have hfz29_3 := blk_frozen BK271.out 3; have hfz29_4 := blk_frozen BK271.out 4) | ((with_reducible refine gate_callee (f := 22) rfl ?_); refine goesL_ (some 13) rfl rfl Try.func22 (by kernel_rfl) rfl #[.agg #[.slice A0_0 l0_0.length c0_0, .slice A0_1 l0_1.length c0_1, .int .i64 a0_2, .int .i64 a0_3, .int .i64 a0_4], .agg #[.slice A1_0 l1_0.length c1_0, .slice A1_1 l1_1.length c1_1, .slice A1_2 l1_2.length c1_2, .slice A1_3 l1_3.length c1_3, .int .i64 a1_4]] rfl (by (try simp only [List.map_toArray, List.map_cons, List.map_nil]); first | done | rfl | (simp only [List.length_drop, List.length_take]; rfl)) ?_; (with_reducible refine (standbyref56_Verify.calls k _ _ l0_0 _ _ l0_1 a0_2 a0_3 a0_4 _ _ l1_0 _ _ l1_1 _ _ l1_2 _ _ l1_3 a1_4 t272 _ ?side1 ?side2 ?side3 ?side4 ?side5 ?side6 ?side7 ?side8 ?side9 ?side10 ?side11 ?side12 A4.out).mono ?_); (case side1 => exact qC HR0_0.out HB.out); (case side2 => exact HC0_0.out); (case side3 => exact qC HR0_1.out HB.out); (case side4 => exact HC0_1.out); (case side5 => exact qC HR1_0.out HB.out); (case side6 => exact HC1_0.out); (case side7 => exact qC HR1_1.out HB.out); (case side8 => exact HC1_1.out); (case side9 => exact qC HR1_2.out HB.out); (case side10 => exact HC1_2.out); (case side11 => exact qC HR1_3.out HB.out); (case side12 => exact HC1_3.out); rintro e w30 ⟨rfl, hb⟩; refine ⟨_, rfl, ?_⟩; have n0_ := Aside0.mk (blk_below (qB BK270.out) hb); have n1_ := Aside0.mk (blk_below (qB BK271.out) hb); have n2_ := Aside0.mk (below_step (qW HB.out) hb); clear BK270 BK271 HB; have BK270 := n0_; have BK271 := n1_; have HB := n2_; clear n0_ n1_ n2_; (try clear hb); (try clear hb2); (try clear hk); (try clear hi)))
  go_ret2
  exact ⟨by first | rfl | (simp [errW_none, errW_some] <;> rfl) | (simp [*, errW_none, errW_some] <;> rfl), by repeat (first | (with_reducible first | exact HB.out | apply below_alloc | apply pw_below_drewN | apply below_drew1 | refine below_set ?_ GE270.out | refine below_set ?_ GE271.out) | exact HB.out)⟩

 rw [if_pos c5] at H
 have c5b0 : (t272 == 0) = true := beq_iff_eq.mpr c5
 have c5b1 : (t272 != 0) = false := bne_eq_false_iff_eq.mpr c5
 clear c5
 have HC6 := Aside0.mk H
 clear H
 go_enter Try.func20, Try.ntmps20
 go_upto_region 4 with (first | ((with_reducible refine gate_dst (N := 3) rfl ?_); refine box_event ?hg (N := 3) ?hd (cs := #[.slice A0_0 l0_0.length c0_0, .slice A0_1 l0_1.length c0_1, .int .i64 a0_2, .int .i64 a0_3, .int .i64 a0_4]) (t := 24) ?hr ?_; (case hd => rfl); (case hg => rfl); (case hr => first | (go_simp; done) | (go_simp; rfl)); intro gb270 hg w7 hbox hb; have n0_ := Aside0.mk (below_step (qW HB.out) hb); have n1_ := Aside0.mk (hbox); have n2_ := Aside0.mk ((by rw [hg]; exact (below_size (qW HB.out)) : w.heap.size ≤ gb270)); have n3_ := Aside0.mk ((by rw [hg]; exact (below_size (qW HB.out)) : w.heap.size ≤ gb270)); clear HB; have HB := n0_; have BK270 := n1_; have GW270 := n2_; have GE270 := n3_; clear n0_ n1_ n2_ n3_ hb hbox hg) | ((with_reducible refine gate_dst (N := 4) rfl ?_); refine box_event ?hg (N := 4) ?hd (cs := #[.slice A1_0 l1_0.length c1_0, .slice A1_1 l1_1.length c1_1, .slice A1_2 l1_2.length c1_2, .slice A1_3 l1_3.length c1_3, .int .i64 a1_4]) (t := 28) ?hr ?_; (case hd => rfl); (case hg => rfl); (case hr => first | (go_simp; done) | (go_simp; rfl)); intro gb271 hg w8 hbox hb; have n0_ := Aside0.mk (blk_below (qB BK270.out) hb); have n1_ := Aside0.mk (below_step (qW HB.out) hb); have n2_ := Aside0.mk (hbox); have n3_ := Aside0.mk ((by rw [hg]; exact (below_size (qW HB.out)) : w.heap.size ≤ gb271)); have n4_ := Aside0.mk ((by rw [hg]; exact (below_size (qW HB.out)) : w.heap.size ≤ gb271)); have n5_ := Aside0.mk ((by rw [hg]; exact Nat.ne_of_lt (blk_lt (qB BK270.out)) : gb270 ≠ gb271)); have n6_ := Aside0.mk ((by rw [hg]; exact Nat.ne_of_gt (blk_lt (qB BK270.out)) : gb271 ≠ gb270)); clear BK270 HB; have BK270 := n0_; have HB := n1_; have BK271 := n2_; have GW271 := n3_; have GE271 := n4_; have NB270_271 := n5_; have NB271_270 := n6_; clear n0_ n1_ n2_ n3_ n4_ n5_ n6_ hb hbox hg; have hnb9 := NB270_271.out; have hnc9 := NB271_270.out; have hcz10_0 : w8.cell? ⟨gb270, 0, none⟩ = some (.slice A0_0 l0_0.length c0_0) := (blk_cell BK270.out 0).trans rfl; have hcz10_1 : w8.cell? ⟨gb270, 1, none⟩ = some (.slice A0_1 l0_1.length c0_1) := (blk_cell BK270.out 1).trans rfl; have hcz10_2 : w8.cell? ⟨gb270, 2, none⟩ = some (.int .i64 a0_2) := (blk_cell BK270.out 2).trans rfl; have hcz10_3 : w8.cell? ⟨gb270, 3, none⟩ = some (.int .i64 a0_3) := (blk_cell BK270.out 3).trans rfl; have hcz10_4 : w8.cell? ⟨gb270, 4, none⟩ = some (.int .i64 a0_4) := (blk_cell BK270.out 4).trans rfl; have hfz10_0 := blk_frozen BK270.out 0; have hfz10_1 := blk_frozen BK270.out 1; have hfz10_2 := blk_frozen BK270.out 2; have hfz10_3 := blk_frozen BK270.out 3; have hfz10_4 := blk_frozen BK270.out 4; have hcz11_0 : w8.cell? ⟨gb271, 0, none⟩ = some (.slice A1_0 l1_0.length c1_0) := (blk_cell BK271.out 0).trans rfl; have hcz11_1 : w8.cell? ⟨gb271, 1, none⟩ = some (.slice A1_1 l1_1.length c1_1) := (blk_cell BK271.out 1).trans rfl; have hcz11_2 : w8.cell? ⟨gb271, 2, none⟩ = some (.slice A1_2 l1_2.length c1_2) := (blk_cell BK271.out 2).trans rfl; have hcz11_3 : w8.cell? ⟨gb271, 3, none⟩ = some (.slice A1_3 l1_3.length c1_3) := (blk_cell BK271.out 3).trans rfl; have hcz11_4 : w8.cell? ⟨gb271, 4, none⟩ = some (.int .i64 a1_4) := (blk_cell BK271.out 4).trans rfl; have hfz11_0 := blk_frozen BK271.out 0; have hfz11_1 := blk_frozen BK271.out 1; have hfz11_2 := blk_frozen BK271.out 2; have hfz11_3 := blk_frozen BK271.out 3; have hfz11_4 := blk_frozen BK271.out 4) | ((with_reducible refine gate_callee (f := 22) rfl ?_); refine goesL_ (some 13) rfl rfl Try.func22 (by kernel_rfl) rfl #[.agg #[.slice A0_0 l0_0.length c0_0, .slice A0_1 l0_1.length c0_1, .int .i64 a0_2, .int .i64 a0_3, .int .i64 a0_4], .agg #[.slice A1_0 l1_0.length c1_0, .slice A1_1 l1_1.length c1_1, .slice A1_2 l1_2.length c1_2, .slice A1_3 l1_3.length c1_3, .int .i64 a1_4]] rfl (by (try simp only [List.map_toArray, List.map_cons, List.map_nil]); first | done | rfl | (simp only [List.length_drop, List.length_take]; rfl)) ?_; (with_reducible refine (standbyref56_Verify.calls k _ _ l0_0 _ _ l0_1 a0_2 a0_3 a0_4 _ _ l1_0 _ _ l1_1 _ _ l1_2 _ _ l1_3 a1_4 t272 _ ?side1 ?side2 ?side3 ?side4 ?side5 ?side6 ?side7 ?side8 ?side9 ?side10 ?side11 ?side12 A4.out).mono ?_); (case side1 => exact qC HR0_0.out HB.out); (case side2 => exact HC0_0.out); (case side3 => exact qC HR0_1.out HB.out); (case side4 => exact HC0_1.out); (case side5 => exact qC HR1_0.out HB.out); (case side6 => exact HC1_0.out); (case side7 => exact qC HR1_1.out HB.out); (case side8 => exact HC1_1.out); (case side9 => exact qC HR1_2.out HB.out); (case side10 => exact HC1_2.out); (case side11 => exact qC HR1_3.out HB.out); (case side12 => exact HC1_3.out); rintro e w12 ⟨rfl, hb⟩; refine ⟨_, rfl, ?_⟩; have n0_ := Aside0.mk (blk_below (qB BK270.out) hb); have n1_ := Aside0.mk (blk_below (qB BK271.out) hb); have n2_ := Aside0.mk (below_step (qW HB.out) hb); clear BK270 BK271 HB; have BK270 := n0_; have BK271 := n1_; have HB := n2_; clear n0_ n1_ n2_; (try clear hb); (try clear hb2); (try clear hk); (try clear hi)))
 (try simp only [Act.put, List.setIfInBounds_toArray, List.set_cons_zero, List.set_cons_succ])
 go_cut [22] (fun v22 wc => ∃ (kq : Nat) (x22_5 : Bool), v22 = .bool x22_5 ∧ Aside0 (standbyref56_Age.j0 kq a2 x22_5 l1_0 l1_1 l1_2 l1_3 a1_4 = some (r1, r2)) ∧ Aside0 (kq ≤ k) ∧ Aside0 (wc.heap[gb270]? = some (.cells #[(.slice A0_0 l0_0.length c0_0), (.slice A0_1 l0_1.length c0_1), .int .i64 a0_2, .int .i64 a0_3, .int .i64 a0_4] 24 (0, 0))) ∧ Aside0 (wc.heap[gb271]? = some (.cells #[(.slice A1_0 l1_0.length c1_0), (.slice A1_1 l1_1.length c1_1), (.slice A1_2 l1_2.length c1_2), (.slice A1_3 l1_3.length c1_3), .int .i64 a1_4] 28 (0, 0))) ∧ Aside0 (Below w.heap.size w wc))
 case first =>
  have H := HC6.out
  clear HC6
  by_cases c13 : a2 < 0
  ·rw [if_pos c13] at H
   have c13b0 : decide (a2 < 0) = true := decide_eq_true c13
   clear c13
   (first | rw [c13b0] | (simp only [i64_w, i32_w]; rw [c13b0]) | skip)
   have H' := Aside0.mk H
   clear H
   go_wp2
   go_meet
   case rel => exact ⟨_, (true), (by first | rfl | (simp; done) | (simp [*]; done)), H', ⟨by first | omega | exact Nat.le_refl _⟩, ⟨by exact qB BK270.out⟩, ⟨by exact qB BK271.out⟩, ⟨by repeat (first | (with_reducible first | exact HB.out | apply below_alloc | apply pw_below_drewN | apply below_drew1 | refine below_set ?_ GE270.out | refine below_set ?_ GE271.out) | exact HB.out)⟩⟩
  ·rw [if_neg c13] at H
   have c13b0 : decide (a2 < 0) = false := decide_eq_false c13
   clear c13
   (first | rw [c13b0] | (simp only [i64_w, i32_w]; rw [c13b0]) | skip)
   have H' := Aside0.mk H
   clear H
   go_wp2
   go_meet
   case rel => exact ⟨_, (decide (a2 > 1073741824)), (by first | rfl | (simp; done) | (simp [*]; done)), H', ⟨by first | omega | exact Nat.le_refl _⟩, ⟨by exact qB BK270.out⟩, ⟨by exact qB BK271.out⟩, ⟨by repeat (first | (with_reducible first | exact HB.out | apply below_alloc | apply pw_below_drewN | apply below_drew1 | refine below_set ?_ GE270.out | refine below_set ?_ GE271.out) | exact HB.out)⟩⟩
 case rest =>
  clear HC6
  try clear c1
  try clear c2
  try clear p2
  try clear c5
  try clear c5b0
  try clear c5b1
  try clear c9
  try clear c13
  try clear c13b0
  try clear hcz10_0
  try clear hcz10_1
  try clear hcz10_2
  try clear hcz10_3
  try clear hcz10_4
  try clear hcz11_0
  try clear hcz11_1
  try clear hcz11_2
  try clear hcz11_3
  try clear hcz11_4
  try clear hfz10_0
  try clear hfz10_1
  try clear hfz10_2
  try clear hfz10_3
  try clear hfz10_4
  try clear hfz11_0
  try clear hfz11_1
  try clear hfz11_2
  try clear hfz11_3
  try clear hfz11_4
  obtain ⟨kq, x22_5, rfl, HA, HJ5, BK270, BK271, HB⟩ := hcut
  cases kq with
  | zero => exact absurd HA.out (by simp [standbyref56_Age.j0])
  | succ kj5 =>
   have H := HA.out
   clear HA
   simp only [standbyref56_Age.j0] at H
   by_cases c14 : x22_5 = true
   ·subst c14
    have H1 : (some (0, 24)) = some (r1, r2) := by rw [if_pos rfl] at H; exact H
    clear H
    have H := H1
    clear H1
    simp only [Option.some.injEq, Prod.mk.injEq] at H
    obtain ⟨rfl, rfl⟩ := H
    go_wp2
    go_ret2
    exact ⟨by first | rfl | (simp [errW_none, errW_some] <;> rfl) | (simp [*, errW_none, errW_some] <;> rfl), by repeat (first | (with_reducible first | exact HB.out | apply below_alloc | apply pw_below_drewN | apply below_drew1 | refine below_set ?_ GE270.out | refine below_set ?_ GE271.out) | exact HB.out)⟩
   ·replace c14 := Bool.eq_false_iff.mpr c14
    subst c14
    have H1 : (standbyref56_Age.l0 kj5 a2 a2 0 l1_0 l1_1 l1_2 l1_3 a1_4) = some (r1, r2) := by rw [if_neg (show ¬ (false = true) by decide)] at H; exact H
    clear H
    have H := H1
    clear H1
    have H' := Aside0.mk H
    clear H
    go_wp2
    go_loopg [9, 10] kj5 (fun kq v9 v10 w' => ∃ (x9_2 : Int) (x10_2 : Int), v9 = .int .i64 x9_2 ∧ v10 = .int .i64 x10_2 ∧ Aside0 (standbyref56_Age.l0 kq a2 x9_2 x10_2 l1_0 l1_1 l1_2 l1_3 a1_4 = some (r1, r2)) ∧ Aside0 (kq ≤ kj5) ∧ Aside0 (w'.heap[gb270]? = some (.cells #[(.slice A0_0 l0_0.length c0_0), (.slice A0_1 l0_1.length c0_1), .int .i64 a0_2, .int .i64 a0_3, .int .i64 a0_4] 24 (0, 0))) ∧ Aside0 (w'.heap[gb271]? = some (.cells #[(.slice A1_0 l1_0.length c1_0), (.slice A1_1 l1_1.length c1_1), (.slice A1_2 l1_2.length c1_2), (.slice A1_3 l1_3.length c1_3), .int .i64 a1_4] 28 (0, 0))) ∧ Aside0 (Below w.heap.size w w'))
    case atStart => exact ⟨(a2), (0), (by first | rfl | (simp; done) | (simp [*]; done)), (by first | rfl | (simp; done) | (simp [*]; done)), H', ⟨Nat.le_refl _⟩, ⟨by exact qB BK270.out⟩, ⟨by exact qB BK271.out⟩, ⟨by repeat (first | (with_reducible first | exact HB.out | apply below_alloc | apply pw_below_drewN | apply below_drew1 | refine below_set ?_ GE270.out | refine below_set ?_ GE271.out) | exact HB.out)⟩⟩
    case round =>
     clear H'
     try clear c1
     try clear c2
     try clear p2
     try clear c5
     try clear c5b0
     try clear c5b1
     try clear c9
     try clear c13
     try clear c13b0
     try clear c14
     try clear hcz10_0
     try clear hcz10_1
     try clear hcz10_2
     try clear hcz10_3
     try clear hcz10_4
     try clear hcz11_0
     try clear hcz11_1
     try clear hcz11_2
     try clear hcz11_3
     try clear hcz11_4
     try clear hfz10_0
     try clear hfz10_1
     try clear hfz10_2
     try clear hfz10_3
     try clear hfz10_4
     try clear hfz11_0
     try clear hfz11_1
     try clear hfz11_2
     try clear hfz11_3
     try clear hfz11_4
     try clear p2
     obtain ⟨x9_2, x10_2, rfl, rfl, HA, HK2, BK270, BK271, HB⟩ := hrel
     cases gk with
     | zero => exact absurd HA.out (by simp [standbyref56_Age.l0])
     | succ k2 =>
      have H := HA.out
      clear HA
      simp only [standbyref56_Age.l0] at H
      by_cases c15 : x10_2 < (l1_0.length : Int)
      case neg =>
       rw [if_neg c15] at H
       have c15b0 : decide (x10_2 < (l1_0.length : Int)) = false := decide_eq_false c15
       clear c15
       simp only [Option.some.injEq, Prod.mk.injEq] at H
       obtain ⟨rfl, rfl⟩ := H
       have hnb23 := NB271_270.out
       have hnc23 := NB270_271.out
       have hcz24_0 : wr.cell? ⟨gb271, 0, none⟩ = some (.slice A1_0 l1_0.length c1_0) := (blk_cell BK271.out 0).trans rfl
       have hcz24_1 : wr.cell? ⟨gb271, 1, none⟩ = some (.slice A1_1 l1_1.length c1_1) := (blk_cell BK271.out 1).trans rfl
       have hcz24_2 : wr.cell? ⟨gb271, 2, none⟩ = some (.slice A1_2 l1_2.length c1_2) := (blk_cell BK271.out 2).trans rfl
       have hcz24_3 : wr.cell? ⟨gb271, 3, none⟩ = some (.slice A1_3 l1_3.length c1_3) := (blk_cell BK271.out 3).trans rfl
       have hcz24_4 : wr.cell? ⟨gb271, 4, none⟩ = some (.int .i64 a1_4) := (blk_cell BK271.out 4).trans rfl
       have hfz24_0 := blk_frozen BK271.out 0
       have hfz24_1 := blk_frozen BK271.out 1
       have hfz24_2 := blk_frozen BK271.out 2
       have hfz24_3 := blk_frozen BK271.out 3
       have hfz24_4 := blk_frozen BK271.out 4
       go_wp2
       go_ret2
       exact ⟨by first | rfl | (simp [errW_none, errW_some] <;> rfl) | (simp [*, errW_none, errW_some] <;> rfl), by repeat (first | (with_reducible first | exact HB.out | apply below_alloc | apply pw_below_drewN | apply below_drew1 | refine below_set ?_ GE270.out | refine below_set ?_ GE271.out) | exact HB.out)⟩
      rw [if_pos c15] at H
      have c15b0 : decide (x10_2 < (l1_0.length : Int)) = true := decide_eq_true c15
      clear c15
      by_cases c16 : 0 ≤ x10_2
      case neg =>
       rw [if_neg c16] at H
       exact absurd H (by simp)
      rw [if_pos c16] at H
      have c16b0 : decide (0 ≤ x10_2) = true := decide_eq_true c16
      clear c16
      by_cases c17 : x10_2 < (l1_3.length : Int)
      case neg =>
       rw [if_neg c17] at H
       exact absurd H (by simp)
      rw [if_pos c17] at H
      have c17b0 : decide (x10_2 < (l1_3.length : Int)) = true := decide_eq_true c17
      clear c17
      by_cases c18 : (rd l1_3 x10_2) ≤ a2
      case neg =>
       rw [if_neg c18] at H
       have c18b0 : decide ((rd l1_3 x10_2) ≤ a2) = false := decide_eq_false c18
       clear c18
       have H' := Aside0.mk H
       clear H
       have hnb21 := NB271_270.out
       have hnc21 := NB270_271.out
       have hcz22_0 : wr.cell? ⟨gb271, 0, none⟩ = some (.slice A1_0 l1_0.length c1_0) := (blk_cell BK271.out 0).trans rfl
       have hcz22_1 : wr.cell? ⟨gb271, 1, none⟩ = some (.slice A1_1 l1_1.length c1_1) := (blk_cell BK271.out 1).trans rfl
       have hcz22_2 : wr.cell? ⟨gb271, 2, none⟩ = some (.slice A1_2 l1_2.length c1_2) := (blk_cell BK271.out 2).trans rfl
       have hcz22_3 : wr.cell? ⟨gb271, 3, none⟩ = some (.slice A1_3 l1_3.length c1_3) := (blk_cell BK271.out 3).trans rfl
       have hcz22_4 : wr.cell? ⟨gb271, 4, none⟩ = some (.int .i64 a1_4) := (blk_cell BK271.out 4).trans rfl
       have hfz22_0 := blk_frozen BK271.out 0
       have hfz22_1 := blk_frozen BK271.out 1
       have hfz22_2 := blk_frozen BK271.out 2
       have hfz22_3 := blk_frozen BK271.out 3
       have hfz22_4 := blk_frozen BK271.out 4
       have p273 : 0 ≤ (x10_2 : Int) := of_decide_eq_true (by first | (with_reducible assumption) | assumption)
       have q273 : x10_2 < (l1_3.length : Int) := of_decide_eq_true (by first | (with_reducible assumption) | assumption)
       obtain ⟨ad273, e273, hx273_0⟩ := Kd.at_int HR1_3.out x10_2 p273 q273
       cases e273
       replace hx273_0 := (HB.out.cell (World.block_lt_of_cell? w _ hx273_0)).trans hx273_0
       replace p273 := eq_true p273
       replace q273 := eq_true q273
       go_wp2
       go_roundg k2
       case measure => have := HJ5.out; have := HK2.out; omega
       case rel => exact ⟨(x9_2), (wrap64 (x10_2 + 1)), (by first | rfl | (simp; done) | (simp [*]; done)), (by first | rfl | (simp; done) | (simp [*]; done)), H', ⟨by have := HJ5.out; have := HK2.out; omega⟩, ⟨by exact qB BK270.out⟩, ⟨by exact qB BK271.out⟩, ⟨by repeat (first | (with_reducible first | exact HB.out | apply below_alloc | apply pw_below_drewN | apply below_drew1 | refine below_set ?_ GE270.out | refine below_set ?_ GE271.out) | exact HB.out)⟩⟩
      rw [if_pos c18] at H
      have c18b0 : decide ((rd l1_3 x10_2) ≤ a2) = true := decide_eq_true c18
      clear c18
      have H' := Aside0.mk H
      clear H
      have hnb19 := NB271_270.out
      have hnc19 := NB270_271.out
      have hcz20_0 : wr.cell? ⟨gb271, 0, none⟩ = some (.slice A1_0 l1_0.length c1_0) := (blk_cell BK271.out 0).trans rfl
      have hcz20_1 : wr.cell? ⟨gb271, 1, none⟩ = some (.slice A1_1 l1_1.length c1_1) := (blk_cell BK271.out 1).trans rfl
      have hcz20_2 : wr.cell? ⟨gb271, 2, none⟩ = some (.slice A1_2 l1_2.length c1_2) := (blk_cell BK271.out 2).trans rfl
      have hcz20_3 : wr.cell? ⟨gb271, 3, none⟩ = some (.slice A1_3 l1_3.length c1_3) := (blk_cell BK271.out 3).trans rfl
      have hcz20_4 : wr.cell? ⟨gb271, 4, none⟩ = some (.int .i64 a1_4) := (blk_cell BK271.out 4).trans rfl
      have hfz20_0 := blk_frozen BK271.out 0
      have hfz20_1 := blk_frozen BK271.out 1
      have hfz20_2 := blk_frozen BK271.out 2
      have hfz20_3 := blk_frozen BK271.out 3
      have hfz20_4 := blk_frozen BK271.out 4
      have p273 : 0 ≤ (x10_2 : Int) := of_decide_eq_true (by first | (with_reducible assumption) | assumption)
      have q273 : x10_2 < (l1_3.length : Int) := of_decide_eq_true (by first | (with_reducible assumption) | assumption)
      obtain ⟨ad273, e273, hx273_0⟩ := Kd.at_int HR1_3.out x10_2 p273 q273
      cases e273
      replace hx273_0 := (HB.out.cell (World.block_lt_of_cell? w _ hx273_0)).trans hx273_0
      replace p273 := eq_true p273
      replace q273 := eq_true q273
      have p274 : 0 ≤ (x10_2 : Int) := of_decide_eq_true (by first | (with_reducible assumption) | assumption)
      have q274 : x10_2 < (l1_0.length : Int) := of_decide_eq_true (by first | (with_reducible assumption) | assumption)
      obtain ⟨ad274, e274, hx274_0⟩ := Kd.at_int HR1_0.out x10_2 p274 q274
      cases e274
      replace hx274_0 := (HB.out.cell (World.block_lt_of_cell? w _ hx274_0)).trans hx274_0
      replace p274 := eq_true p274
      replace q274 := eq_true q274
      go_wp2
      go_roundg k2
      case measure => have := HJ5.out; have := HK2.out; omega
      case rel => exact ⟨(wrap64 (a2 - (rd l1_0 x10_2))), (wrap64 (x10_2 + 1)), (by first | rfl | (simp; done) | (simp [*]; done)), (by first | rfl | (simp; done) | (simp [*]; done)), H', ⟨by have := HJ5.out; have := HK2.out; omega⟩, ⟨by exact qB BK270.out⟩, ⟨by exact qB BK271.out⟩, ⟨by repeat (first | (with_reducible first | exact HB.out | apply below_alloc | apply pw_below_drewN | apply below_drew1 | refine below_set ?_ GE270.out | refine below_set ?_ GE271.out) | exact HB.out)⟩⟩
end Go.Proofs.Ytcflacjidabppaa.Pr

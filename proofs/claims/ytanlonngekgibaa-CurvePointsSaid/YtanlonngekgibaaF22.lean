-- Written by pp.py, a program of this session, over the translation of the given program; a machine's text: Lean checks it.
import Derived.Test.YtanlonngekgibaaGShort
import Derived.Test.YtanlonngekgibaaF45
import Derived.Test.YtanlonngekgibaaF51
import Derived.Test.YtanlonngekgibaaF52
import Derived.Test.YtanlonngekgibaaF53
import Derived.Test.YtanlonngekgibaaF54
namespace Go.Proofs.Ytanlonngekgibaa.Pr
open Go.RowKit Go.Proofs.YtanlonngekgibaaW.PrintWords Go.Proofs.YtanlonngekgibaaW.PrintLast Go.Proofs.YtanlonngekgibaaW.PrintMore
attribute [local go_sem] max2_int min2_int max_two min_two max_three min_three max_four min_four   -- for this text's walks alone
set_option linter.unusedVariables false
set_option linter.unusedSimpArgs false

/-! ### standbyref55_Convolve: function 22 -/
mutual
def standbyref55_Convolve.l0 : Nat → Int → Int → Int → Int → Int → List Int → Int → List Int → Int → Option (List Int × Int × Int)
 | 0, _, _, _, _, _, _, _, _, _ => none
 | k + 1, x7, x8, x9, x10, x11, x243000, x243001, x244000, x244001 => if x11 < x7 then ((standbyref55_value.f x243000 x243001 x11).bind fun t248 => ((standbyref55_value.f x244000 x244001 (wrap64 (x9 - x11))).bind fun t249 => (standbyref55_Convolve.l0 k x7 x8 x9 (mn x10 (wrap64 (t248 + t249))) (wrap64 (x11 + 1)) x243000 x243001 x244000 x244001))) else ((standbyref55_value.f x243000 x243001 x9).bind fun t250 => ((standbyref55_value.f x244000 x244001 0).bind fun t251 => (standbyref55_Convolve.l1 k x8 x9 x10 (wrap64 (t250 + t251)) 1 x243000 x243001 x244000 x244001)))
def standbyref55_Convolve.l1 : Nat → Int → Int → Int → Int → Int → List Int → Int → List Int → Int → Option (List Int × Int × Int)
 | 0, _, _, _, _, _, _, _, _, _ => none
 | k + 1, x8, x9, x10, x12, x13, x243000, x243001, x244000, x244001 => if x13 < x8 then ((standbyref55_value.f x243000 x243001 (wrap64 (x9 - x13))).bind fun t252 => ((standbyref55_value.f x244000 x244001 x13).bind fun t253 => (standbyref55_Convolve.l1 k x8 x9 x10 (mn x12 (wrap64 (t252 + t253))) (wrap64 (x13 + 1)) x243000 x243001 x244000 x244001))) else ((standbyref55_crossing.f x10 x244001 x12 x243001).bind fun t254 => (if (wrap64 ((wrap64 (x9 + 1)) + t254)) > 4096 then (some (([] : List Int), 0, 5)) else (standbyref55_Convolve.l2 k x9 t254 ([] : List Int) 0 x243000 x243001 x244000 x244001)))
def standbyref55_Convolve.l2 : Nat → Int → Int → List Int → Int → List Int → Int → List Int → Int → Option (List Int × Int × Int)
 | 0, _, _, _, _, _, _, _, _ => none
 | k + 1, x9, x14, x15, x16, x243000, x243001, x244000, x244001 => if x16 ≤ (wrap64 (x9 + x14)) then ((standbyref55_At2.f k x243000 x243001 x244000 x244001 x16).bind fun t255 => (if x15.length < 17592186044416 then (standbyref55_Convolve.l2 k x9 x14 (x15 ++ [t255]) (wrap64 (x16 + 1)) x243000 x243001 x244000 x244001) else (none))) else ((standbyref55_finish.f k x15 (mn x243001 x244001)).bind fun bt259 => (some (bt259.1, bt259.2.1, bt259.2.2)))
end
def standbyref55_Convolve.f (k : Nat) (l0_0 : List Int) (a0_1 : Int) (l1_0 : List Int) (a1_1 : Int) : Option (List Int × Int × Int) := (standbyref55_pair.f k l0_0 a0_1 l1_0 a1_1).bind fun t245 => (if t245 = 0 then ((standbyref55_value.f l0_0 a0_1 0).bind fun t246 => ((standbyref55_value.f l1_0 a1_1 (wrap64 ((wrap64 ((l0_0.length : Int) + (l1_0.length : Int))) - 2))).bind fun t247 => (standbyref55_Convolve.l0 k (l0_0.length : Int) (l1_0.length : Int) (wrap64 ((wrap64 ((l0_0.length : Int) + (l1_0.length : Int))) - 2)) (wrap64 (t246 + t247)) 1 l0_0 a0_1 l1_0 a1_1))) else (some (([] : List Int), 0, t245)))
theorem standbyref55_Convolve.mono_l : ∀ k, (∀ y0 y1 y2 y3 y4 y5 y6 y7 y8, LeO (standbyref55_Convolve.l0 k y0 y1 y2 y3 y4 y5 y6 y7 y8) (standbyref55_Convolve.l0 (k + 1) y0 y1 y2 y3 y4 y5 y6 y7 y8)) ∧ (∀ y0 y1 y2 y3 y4 y5 y6 y7 y8, LeO (standbyref55_Convolve.l1 k y0 y1 y2 y3 y4 y5 y6 y7 y8) (standbyref55_Convolve.l1 (k + 1) y0 y1 y2 y3 y4 y5 y6 y7 y8)) ∧ (∀ y0 y1 y2 y3 y4 y5 y6 y7, LeO (standbyref55_Convolve.l2 k y0 y1 y2 y3 y4 y5 y6 y7) (standbyref55_Convolve.l2 (k + 1) y0 y1 y2 y3 y4 y5 y6 y7))
 | 0 => ⟨fun _ _ _ _ _ _ _ _ _ r h => by simp [standbyref55_Convolve.l0] at h, fun _ _ _ _ _ _ _ _ _ r h => by simp [standbyref55_Convolve.l1] at h, fun _ _ _ _ _ _ _ _ r h => by simp [standbyref55_Convolve.l2] at h⟩
 | k + 1 => by
  obtain ⟨ih0, ih1, ih2⟩ := standbyref55_Convolve.mono_l k
  refine ⟨?_, ?_, ?_⟩
  ·intro y0 y1 y2 y3 y4 y5 y6 y7 y8
   unfold standbyref55_Convolve.l0
   repeat' first
   | (with_reducible exact ih0 _ _ _ _ _ _ _ _ _)
   | (with_reducible exact ih1 _ _ _ _ _ _ _ _ _)
   | (with_reducible exact ih2 _ _ _ _ _ _ _ _)
   | (with_reducible exact standbyref55_At2.mono _ _ _ _ _ _)
   | (with_reducible exact standbyref55_finish.mono _ _ _)
   | (with_reducible exact standbyref55_pair.mono _ _ _ _ _)
   | (with_reducible exact LeO.refl _)
   | (with_reducible exact LeO.none _)
   | (with_reducible refine LeO.ite ?_ ?_)
   | (with_reducible refine LeO.bind ?_ (fun _ => ?_))
   | exact ih0 _ _ _ _ _ _ _ _ _
   | exact ih1 _ _ _ _ _ _ _ _ _
   | exact ih2 _ _ _ _ _ _ _ _
   | exact standbyref55_At2.mono _ _ _ _ _ _
   | exact standbyref55_finish.mono _ _ _
   | exact standbyref55_pair.mono _ _ _ _ _
   | exact LeO.none _
   | refine LeO.ite ?_ ?_
   | refine LeO.bind ?_ (fun _ => ?_)
  ·intro y0 y1 y2 y3 y4 y5 y6 y7 y8
   unfold standbyref55_Convolve.l1
   repeat' first
   | (with_reducible exact ih0 _ _ _ _ _ _ _ _ _)
   | (with_reducible exact ih1 _ _ _ _ _ _ _ _ _)
   | (with_reducible exact ih2 _ _ _ _ _ _ _ _)
   | (with_reducible exact standbyref55_At2.mono _ _ _ _ _ _)
   | (with_reducible exact standbyref55_finish.mono _ _ _)
   | (with_reducible exact standbyref55_pair.mono _ _ _ _ _)
   | (with_reducible exact LeO.refl _)
   | (with_reducible exact LeO.none _)
   | (with_reducible refine LeO.ite ?_ ?_)
   | (with_reducible refine LeO.bind ?_ (fun _ => ?_))
   | exact ih0 _ _ _ _ _ _ _ _ _
   | exact ih1 _ _ _ _ _ _ _ _ _
   | exact ih2 _ _ _ _ _ _ _ _
   | exact standbyref55_At2.mono _ _ _ _ _ _
   | exact standbyref55_finish.mono _ _ _
   | exact standbyref55_pair.mono _ _ _ _ _
   | exact LeO.none _
   | refine LeO.ite ?_ ?_
   | refine LeO.bind ?_ (fun _ => ?_)
  ·intro y0 y1 y2 y3 y4 y5 y6 y7
   unfold standbyref55_Convolve.l2
   repeat' first
   | (with_reducible exact ih0 _ _ _ _ _ _ _ _ _)
   | (with_reducible exact ih1 _ _ _ _ _ _ _ _ _)
   | (with_reducible exact ih2 _ _ _ _ _ _ _ _)
   | (with_reducible exact standbyref55_At2.mono _ _ _ _ _ _)
   | (with_reducible exact standbyref55_finish.mono _ _ _)
   | (with_reducible exact standbyref55_pair.mono _ _ _ _ _)
   | (with_reducible exact LeO.refl _)
   | (with_reducible exact LeO.none _)
   | (with_reducible refine LeO.ite ?_ ?_)
   | (with_reducible refine LeO.bind ?_ (fun _ => ?_))
   | exact ih0 _ _ _ _ _ _ _ _ _
   | exact ih1 _ _ _ _ _ _ _ _ _
   | exact ih2 _ _ _ _ _ _ _ _
   | exact standbyref55_At2.mono _ _ _ _ _ _
   | exact standbyref55_finish.mono _ _ _
   | exact standbyref55_pair.mono _ _ _ _ _
   | exact LeO.none _
   | refine LeO.ite ?_ ?_
   | refine LeO.bind ?_ (fun _ => ?_)
theorem standbyref55_Convolve.mono : ∀ a0 a1 a2 a3 k, LeO (standbyref55_Convolve.f k a0 a1 a2 a3) (standbyref55_Convolve.f (k + 1) a0 a1 a2 a3) := by
 intro a0 a1 a2 a3 k
 obtain ⟨ih0, ih1, ih2⟩ := standbyref55_Convolve.mono_l k
 unfold standbyref55_Convolve.f
 repeat' first
   | (with_reducible exact ih0 _ _ _ _ _ _ _ _ _)
   | (with_reducible exact ih1 _ _ _ _ _ _ _ _ _)
   | (with_reducible exact ih2 _ _ _ _ _ _ _ _)
   | (with_reducible exact standbyref55_At2.mono _ _ _ _ _ _)
   | (with_reducible exact standbyref55_finish.mono _ _ _)
   | (with_reducible exact standbyref55_pair.mono _ _ _ _ _)
   | (with_reducible exact LeO.refl _)
   | (with_reducible exact LeO.none _)
   | (with_reducible refine LeO.ite ?_ ?_)
   | (with_reducible refine LeO.bind ?_ (fun _ => ?_))
   | exact ih0 _ _ _ _ _ _ _ _ _
   | exact ih1 _ _ _ _ _ _ _ _ _
   | exact ih2 _ _ _ _ _ _ _ _
   | exact standbyref55_At2.mono _ _ _ _ _ _
   | exact standbyref55_finish.mono _ _ _
   | exact standbyref55_pair.mono _ _ _ _ _
   | exact LeO.none _
   | refine LeO.ite ?_ ?_
   | refine LeO.bind ?_ (fun _ => ?_)
def standbyref55_Convolve.T4 : Bool × List (List Nat × List Nat) := (true, [([], []), ([0], [0]), ([1], [1]), ([], []), ([3], [3]), ([4], [4]), ([2, 0, 1, 2], [2]), ([5, 6, 0, 1, 2, 3, 4, 5, 6], [5])])
def standbyref55_Convolve.B4 : List Nat := [0, 1, 3, 0, 8, 24, 7, 127]
theorem standbyref55_Convolve.tab4 : rtab .any (opsOf Try.f22 4) = standbyref55_Convolve.T4 := by kernel_rfl
theorem standbyref55_Convolve.bits4 : waitsOk standbyref55_Convolve.T4.2 standbyref55_Convolve.B4 = true := by kernel_rfl
def standbyref55_Convolve.T10 : Bool × List (List Nat × List Nat) := (true, [([], []), ([], []), ([], []), ([1, 2], [1, 2]), ([], []), ([], []), ([], []), ([5, 6], [5, 6]), ([4, 7, 3], [4, 7]), ([3, 8], [3, 8]), ([0, 9], [0, 9]), ([10, 8, 0, 1, 2, 3, 4, 5, 6, 7, 8, 9, 10], [0, 10])])
def standbyref55_Convolve.B10 : List Nat := [0, 0, 0, 6, 0, 0, 0, 96, 254, 510, 1023, 2047]
theorem standbyref55_Convolve.tab10 : rtab .any (opsOf Try.f22 10) = standbyref55_Convolve.T10 := by kernel_rfl
theorem standbyref55_Convolve.bits10 : waitsOk standbyref55_Convolve.T10.2 standbyref55_Convolve.B10 = true := by kernel_rfl
def standbyref55_Convolve.T15 : Bool × List (List Nat × List Nat) := (true, [([], []), ([], []), ([], []), ([], []), ([2, 3], [2, 3]), ([1, 4], [1, 4]), ([], []), ([], []), ([6, 7, 5], [6, 7]), ([5, 8], [5, 8]), ([0, 9], [0, 9]), ([10, 8, 0, 1, 2, 3, 4, 5, 6, 7, 8, 9, 10], [0, 10])])
def standbyref55_Convolve.B15 : List Nat := [0, 0, 0, 0, 12, 30, 0, 0, 254, 510, 1023, 2047]
theorem standbyref55_Convolve.tab15 : rtab .any (opsOf Try.f22 15) = standbyref55_Convolve.T15 := by kernel_rfl
theorem standbyref55_Convolve.bits15 : waitsOk standbyref55_Convolve.T15.2 standbyref55_Convolve.B15 = true := by kernel_rfl
set_option maxHeartbeats 8000000 in
set_option maxRecDepth 100000 in
theorem standbyref55_Convolve.calls (k : Nat) (A0_0 : Option Addr) (c0_0 : Nat) (l0_0 : List Int) (a0_1 : Int) (A1_0 : Option Addr) (c1_0 : Nat) (l1_0 : List Int) (a1_1 : Int) (r1 : List Int) (r2 : Int) (r3 : Int) (w : World) (hr0_0 : Kd.C (Kd.int .i64) w A0_0 l0_0.length l0_0) (hc0_0 : l0_0.length ≤ c0_0) (hr1_0 : Kd.C (Kd.int .i64) w A1_0 l1_0.length l1_0) (hc1_0 : l1_0.length ≤ c1_0) (h : standbyref55_Convolve.f k l0_0 a0_1 l1_0 a1_1 = some (r1, r2, r3)) :
  Calls Try.prog 22 #[.agg #[.slice A0_0 l0_0.length c0_0, .int .i64 a0_1], .agg #[.slice A1_0 l1_0.length c1_0, .int .i64 a1_1]] w fun e w' => ∃ v0_ : Value, e = .returned (.tuple #[.agg #[v0_, .int .i64 r2], .int .i64 r3]) ∧ Kd.R (Kd.int .i64) 3 w' w.heap.size (fun _ => True) v0_ r1 ∧ Below w.heap.size w w' := by
 have hu24 := Try.underlying24
 have HR0_0 := Aside0.mk hr0_0
 have HC0_0 := Aside0.mk hc0_0
 clear hr0_0 hc0_0
 have HR1_0 := Aside0.mk hr1_0
 have HC1_0 := Aside0.mk hc1_0
 clear hr1_0 hc1_0
 have HB := Aside0.mk (Below.refl w.heap.size w)
 have H : ((standbyref55_pair.f k l0_0 a0_1 l1_0 a1_1).bind fun t245 => (if t245 = 0 then ((standbyref55_value.f l0_0 a0_1 0).bind fun t246 => ((standbyref55_value.f l1_0 a1_1 (wrap64 ((wrap64 ((l0_0.length : Int) + (l1_0.length : Int))) - 2))).bind fun t247 => (standbyref55_Convolve.l0 k (l0_0.length : Int) (l1_0.length : Int) (wrap64 ((wrap64 ((l0_0.length : Int) + (l1_0.length : Int))) - 2)) (wrap64 (t246 + t247)) 1 l0_0 a0_1 l1_0 a1_1))) else (some (([] : List Int), 0, t245)))) = some (r1, r2, r3) := h
 clear h
 replace H := Option.bind_eq_some_iff.mp H
 obtain ⟨t245, A30, H⟩ := H
 replace H : (if t245 = 0 then ((standbyref55_value.f l0_0 a0_1 0).bind fun t246 => ((standbyref55_value.f l1_0 a1_1 (wrap64 ((wrap64 ((l0_0.length : Int) + (l1_0.length : Int))) - 2))).bind fun t247 => (standbyref55_Convolve.l0 k (l0_0.length : Int) (l1_0.length : Int) (wrap64 ((wrap64 ((l0_0.length : Int) + (l1_0.length : Int))) - 2)) (wrap64 (t246 + t247)) 1 l0_0 a0_1 l1_0 a1_1))) else (some (([] : List Int), 0, t245))) = some (r1, r2, r3) := H
 have A3 := Aside0.mk A30
 clear A30
 by_cases c4 : t245 = 0
 case neg =>
  rw [if_neg c4] at H
  have c4b0 : (t245 == 0) = false := beq_eq_false_iff_ne.mpr c4
  have c4b1 : (t245 != 0) = true := bne_iff_ne.mpr c4
  simp only [Option.some.injEq, Prod.mk.injEq] at H
  obtain ⟨rfl, rfl, rfl⟩ := H
  go_enter Try.func22, Try.ntmps22
  go_wp2_with (first | ((with_reducible refine gate_dst (N := 2) rfl ?_); refine box_event ?hg (N := 2) ?hd (cs := #[.slice A0_0 l0_0.length c0_0, .int .i64 a0_1]) (t := 24) ?hr ?_; (case hd => rfl); (case hg => rfl); (case hr => first | (go_simp; done) | (go_simp; rfl)); intro gb242 hg w73 hbox hb; have n0_ := Aside0.mk (below_step (qW HB.out) hb); have n1_ := Aside0.mk (hbox); have n2_ := Aside0.mk ((by rw [hg]; exact (below_size (qW HB.out)) : w.heap.size ≤ gb242)); have n3_ := Aside0.mk ((by rw [hg]; exact (below_size (qW HB.out)) : w.heap.size ≤ gb242)); clear HB; have HB := n0_; have BK242 := n1_; have GW242 := n2_; have GE242 := n3_; clear n0_ n1_ n2_ n3_ hb hbox hg) | ((with_reducible refine gate_dst (N := 3) rfl ?_); refine box_event ?hg (N := 3) ?hd (cs := #[.slice A1_0 l1_0.length c1_0, .int .i64 a1_1]) (t := 24) ?hr ?_; (case hd => rfl); (case hg => rfl); (case hr => first | (go_simp; done) | (go_simp; rfl)); intro gb243 hg w74 hbox hb; have n0_ := Aside0.mk (blk_below (qB BK242.out) hb); have n1_ := Aside0.mk (below_step (qW HB.out) hb); have n2_ := Aside0.mk (hbox); have n3_ := Aside0.mk ((by rw [hg]; exact (below_size (qW HB.out)) : w.heap.size ≤ gb243)); have n4_ := Aside0.mk ((by rw [hg]; exact (below_size (qW HB.out)) : w.heap.size ≤ gb243)); have n5_ := Aside0.mk ((by rw [hg]; exact Nat.ne_of_lt (blk_lt (qB BK242.out)) : gb242 ≠ gb243)); have n6_ := Aside0.mk ((by rw [hg]; exact Nat.ne_of_gt (blk_lt (qB BK242.out)) : gb243 ≠ gb242)); clear BK242 HB; have BK242 := n0_; have HB := n1_; have BK243 := n2_; have GW243 := n3_; have GE243 := n4_; have NB242_243 := n5_; have NB243_242 := n6_; clear n0_ n1_ n2_ n3_ n4_ n5_ n6_ hb hbox hg) | ((with_reducible refine gate_dst (N := 4) rfl ?_); refine box_event ?hg (N := 4) ?hd (cs := #[.slice none 0 0, .int .i64 0]) (t := 24) ?hr ?_; (case hd => rfl); (case hg => rfl); (case hr => first | (go_simp; done) | (go_simp; rfl)); intro gb244 hg w75 hbox hb; have n0_ := Aside0.mk (blk_below (qB BK242.out) hb); have n1_ := Aside0.mk (blk_below (qB BK243.out) hb); have n2_ := Aside0.mk (below_step (qW HB.out) hb); have n3_ := Aside0.mk (hbox); have n4_ := Aside0.mk ((by rw [hg]; exact (below_size (qW HB.out)) : w.heap.size ≤ gb244)); have n5_ := Aside0.mk ((by rw [hg]; exact (below_size (qW HB.out)) : w.heap.size ≤ gb244)); have n6_ := Aside0.mk ((by rw [hg]; exact Nat.ne_of_lt (blk_lt (qB BK242.out)) : gb242 ≠ gb244)); have n7_ := Aside0.mk ((by rw [hg]; exact Nat.ne_of_gt (blk_lt (qB BK242.out)) : gb244 ≠ gb242)); have n8_ := Aside0.mk ((by rw [hg]; exact Nat.ne_of_lt (blk_lt (qB BK243.out)) : gb243 ≠ gb244)); have n9_ := Aside0.mk ((by rw [hg]; exact Nat.ne_of_gt (blk_lt (qB BK243.out)) : gb244 ≠ gb243)); clear BK242 BK243 HB; have BK242 := n0_; have BK243 := n1_; have HB := n2_; have BK244 := n3_; have GW244 := n4_; have GE244 := n5_; have NB242_244 := n6_; have NB244_242 := n7_; have NB243_244 := n8_; have NB244_243 := n9_; clear n0_ n1_ n2_ n3_ n4_ n5_ n6_ n7_ n8_ n9_ hb hbox hg; have hnb76 := NB242_243.out; have hnc76 := NB243_242.out; have hnb77 := NB242_244.out; have hnc77 := NB244_242.out; have hcz78_0 : w75.cell? ⟨gb242, 0, none⟩ = some (.slice A0_0 l0_0.length c0_0) := (blk_cell BK242.out 0).trans rfl; have hcz78_1 : w75.cell? ⟨gb242, 1, none⟩ = some (.int .i64 a0_1) := (blk_cell BK242.out 1).trans rfl; have hfz78_0 := blk_frozen BK242.out 0; have hfz78_1 := blk_frozen BK242.out 1; have hnb79 := NB243_244.out; have hnc79 := NB244_243.out; have hcz80_0 : w75.cell? ⟨gb243, 0, none⟩ = some (.slice A1_0 l1_0.length c1_0) := (blk_cell BK243.out 0).trans rfl; have hcz80_1 : w75.cell? ⟨gb243, 1, none⟩ = some (.int .i64 a1_1) := (blk_cell BK243.out 1).trans rfl; have hfz80_0 := blk_frozen BK243.out 0; have hfz80_1 := blk_frozen BK243.out 1) | ((with_reducible refine gate_callee (f := 51) rfl ?_); refine goesL_ (some 19) rfl rfl Try.func51 (by kernel_rfl) rfl #[.agg #[.slice A0_0 l0_0.length c0_0, .int .i64 a0_1], .agg #[.slice A1_0 l1_0.length c1_0, .int .i64 a1_1]] rfl (by (try simp only [List.map_toArray, List.map_cons, List.map_nil]); first | done | rfl | (simp only [List.length_drop, List.length_take]; rfl)) ?_; (with_reducible refine (standbyref55_pair.calls k _ _ l0_0 a0_1 _ _ l1_0 a1_1 t245 _ ?side1 ?side2 ?side3 ?side4 A3.out).mono ?_); (case side1 => exact qC HR0_0.out HB.out); (case side2 => exact HC0_0.out); (case side3 => exact qC HR1_0.out HB.out); (case side4 => exact HC1_0.out); rintro e w81 ⟨rfl, hb⟩; refine ⟨_, rfl, ?_⟩; have n0_ := Aside0.mk (blk_below (qB BK242.out) hb); have n1_ := Aside0.mk (blk_below (qB BK243.out) hb); have n2_ := Aside0.mk (blk_below (qB BK244.out) hb); have n3_ := Aside0.mk (below_step (qW HB.out) hb); clear BK242 BK243 BK244 HB; have BK242 := n0_; have BK243 := n1_; have BK244 := n2_; have HB := n3_; clear n0_ n1_ n2_ n3_; (try clear hb); (try clear hb2); (try clear hk); (try clear hi); have hcz82_0 : w81.cell? ⟨gb244, 0, none⟩ = some (.slice none 0 0) := (blk_cell BK244.out 0).trans rfl; have hcz82_1 : w81.cell? ⟨gb244, 1, none⟩ = some (.int .i64 0) := (blk_cell BK244.out 1).trans rfl; have hfz82_0 := blk_frozen BK244.out 0; have hfz82_1 := blk_frozen BK244.out 1))
  refine bodyPost_ret (results_ct rfl _ _ gb244 24 #[.slice none 0 0, .int .i64 0] (0, 0) _ rfl (by (with_reducible repeat (first | refine blk_drewN ?_ _ | refine blk_drew ?_ | refine blk_alloc ?_ _)); refine blk_put (cs := #[.slice none 0 0, .int .i64 0]) ?_ 1 _ rfl; (with_reducible repeat (first | refine blk_drewN ?_ _ | refine blk_drew ?_ | refine blk_alloc ?_ _)); refine blk_put (cs := #[.slice none 0 0, .int .i64 0]) ?_ 0 _ rfl; exact qB BK244.out) Try.underlying24 rfl (by kernel_rfl)) rfl ?_
  exact ⟨_, by first | rfl | (simp [errW_none, errW_some] <;> rfl) | (simp [*, errW_none, errW_some] <;> rfl), by first | exact Kd.R_nil _ _ _ _ _ | exact Kd.N_nil _ _ _ _ _ | exact Kd.V_nil _ _ _ _ _ | exact Kd.Q_nil _ _ _ _ _ | exact Kd.S_nil _ _ _ _ _, by repeat (first | (with_reducible first | exact HB.out | apply below_alloc | apply pw_below_drewN | apply below_drew1 | refine below_set ?_ GE242.out | refine below_set ?_ GE243.out | refine below_set ?_ GE244.out) | exact HB.out)⟩

 rw [if_pos c4] at H
 have c4b0 : (t245 == 0) = true := beq_iff_eq.mpr c4
 have c4b1 : (t245 != 0) = false := bne_eq_false_iff_eq.mpr c4
 clear c4
 replace H := Option.bind_eq_some_iff.mp H
 obtain ⟨t246, A50, H⟩ := H
 replace H : ((standbyref55_value.f l1_0 a1_1 (wrap64 ((wrap64 ((l0_0.length : Int) + (l1_0.length : Int))) - 2))).bind fun t247 => (standbyref55_Convolve.l0 k (l0_0.length : Int) (l1_0.length : Int) (wrap64 ((wrap64 ((l0_0.length : Int) + (l1_0.length : Int))) - 2)) (wrap64 (t246 + t247)) 1 l0_0 a0_1 l1_0 a1_1)) = some (r1, r2, r3) := H
 have A5 := Aside0.mk A50
 clear A50
 replace H := Option.bind_eq_some_iff.mp H
 obtain ⟨t247, A60, H⟩ := H
 replace H : (standbyref55_Convolve.l0 k (l0_0.length : Int) (l1_0.length : Int) (wrap64 ((wrap64 ((l0_0.length : Int) + (l1_0.length : Int))) - 2)) (wrap64 (t246 + t247)) 1 l0_0 a0_1 l1_0 a1_1) = some (r1, r2, r3) := H
 have A6 := Aside0.mk A60
 clear A60
 have H' := Aside0.mk H
 clear H
 go_enter Try.func22, Try.ntmps22
 try go_wp2_with (first | ((with_reducible refine gate_dst (N := 2) rfl ?_); refine box_event ?hg (N := 2) ?hd (cs := #[.slice A0_0 l0_0.length c0_0, .int .i64 a0_1]) (t := 24) ?hr ?_; (case hd => rfl); (case hg => rfl); (case hr => first | (go_simp; done) | (go_simp; rfl)); intro gb242 hg w7 hbox hb; have n0_ := Aside0.mk (below_step (qW HB.out) hb); have n1_ := Aside0.mk (hbox); have n2_ := Aside0.mk ((by rw [hg]; exact (below_size (qW HB.out)) : w.heap.size ≤ gb242)); have n3_ := Aside0.mk ((by rw [hg]; exact (below_size (qW HB.out)) : w.heap.size ≤ gb242)); clear HB; have HB := n0_; have BK242 := n1_; have GW242 := n2_; have GE242 := n3_; clear n0_ n1_ n2_ n3_ hb hbox hg) | ((with_reducible refine gate_dst (N := 3) rfl ?_); refine box_event ?hg (N := 3) ?hd (cs := #[.slice A1_0 l1_0.length c1_0, .int .i64 a1_1]) (t := 24) ?hr ?_; (case hd => rfl); (case hg => rfl); (case hr => first | (go_simp; done) | (go_simp; rfl)); intro gb243 hg w8 hbox hb; have n0_ := Aside0.mk (blk_below (qB BK242.out) hb); have n1_ := Aside0.mk (below_step (qW HB.out) hb); have n2_ := Aside0.mk (hbox); have n3_ := Aside0.mk ((by rw [hg]; exact (below_size (qW HB.out)) : w.heap.size ≤ gb243)); have n4_ := Aside0.mk ((by rw [hg]; exact (below_size (qW HB.out)) : w.heap.size ≤ gb243)); have n5_ := Aside0.mk ((by rw [hg]; exact Nat.ne_of_lt (blk_lt (qB BK242.out)) : gb242 ≠ gb243)); have n6_ := Aside0.mk ((by rw [hg]; exact Nat.ne_of_gt (blk_lt (qB BK242.out)) : gb243 ≠ gb242)); clear BK242 HB; have BK242 := n0_; have HB := n1_; have BK243 := n2_; have GW243 := n3_; have GE243 := n4_; have NB242_243 := n5_; have NB243_242 := n6_; clear n0_ n1_ n2_ n3_ n4_ n5_ n6_ hb hbox hg) | ((with_reducible refine gate_dst (N := 4) rfl ?_); refine box_event ?hg (N := 4) ?hd (cs := #[.slice none 0 0, .int .i64 0]) (t := 24) ?hr ?_; (case hd => rfl); (case hg => rfl); (case hr => first | (go_simp; done) | (go_simp; rfl)); intro gb244 hg w9 hbox hb; have n0_ := Aside0.mk (blk_below (qB BK242.out) hb); have n1_ := Aside0.mk (blk_below (qB BK243.out) hb); have n2_ := Aside0.mk (below_step (qW HB.out) hb); have n3_ := Aside0.mk (hbox); have n4_ := Aside0.mk ((by rw [hg]; exact (below_size (qW HB.out)) : w.heap.size ≤ gb244)); have n5_ := Aside0.mk ((by rw [hg]; exact (below_size (qW HB.out)) : w.heap.size ≤ gb244)); have n6_ := Aside0.mk ((by rw [hg]; exact Nat.ne_of_lt (blk_lt (qB BK242.out)) : gb242 ≠ gb244)); have n7_ := Aside0.mk ((by rw [hg]; exact Nat.ne_of_gt (blk_lt (qB BK242.out)) : gb244 ≠ gb242)); have n8_ := Aside0.mk ((by rw [hg]; exact Nat.ne_of_lt (blk_lt (qB BK243.out)) : gb243 ≠ gb244)); have n9_ := Aside0.mk ((by rw [hg]; exact Nat.ne_of_gt (blk_lt (qB BK243.out)) : gb244 ≠ gb243)); clear BK242 BK243 HB; have BK242 := n0_; have BK243 := n1_; have HB := n2_; have BK244 := n3_; have GW244 := n4_; have GE244 := n5_; have NB242_244 := n6_; have NB244_242 := n7_; have NB243_244 := n8_; have NB244_243 := n9_; clear n0_ n1_ n2_ n3_ n4_ n5_ n6_ n7_ n8_ n9_ hb hbox hg; have hnb10 := NB242_243.out; have hnc10 := NB243_242.out; have hnb11 := NB242_244.out; have hnc11 := NB244_242.out; have hcz12_0 : w9.cell? ⟨gb242, 0, none⟩ = some (.slice A0_0 l0_0.length c0_0) := (blk_cell BK242.out 0).trans rfl; have hcz12_1 : w9.cell? ⟨gb242, 1, none⟩ = some (.int .i64 a0_1) := (blk_cell BK242.out 1).trans rfl; have hfz12_0 := blk_frozen BK242.out 0; have hfz12_1 := blk_frozen BK242.out 1; have hnb13 := NB243_244.out; have hnc13 := NB244_243.out; have hcz14_0 : w9.cell? ⟨gb243, 0, none⟩ = some (.slice A1_0 l1_0.length c1_0) := (blk_cell BK243.out 0).trans rfl; have hcz14_1 : w9.cell? ⟨gb243, 1, none⟩ = some (.int .i64 a1_1) := (blk_cell BK243.out 1).trans rfl; have hfz14_0 := blk_frozen BK243.out 0; have hfz14_1 := blk_frozen BK243.out 1) | ((with_reducible refine gate_callee (f := 51) rfl ?_); refine goesL_ (some 19) rfl rfl Try.func51 (by kernel_rfl) rfl #[.agg #[.slice A0_0 l0_0.length c0_0, .int .i64 a0_1], .agg #[.slice A1_0 l1_0.length c1_0, .int .i64 a1_1]] rfl (by (try simp only [List.map_toArray, List.map_cons, List.map_nil]); first | done | rfl | (simp only [List.length_drop, List.length_take]; rfl)) ?_; (with_reducible refine (standbyref55_pair.calls k _ _ l0_0 a0_1 _ _ l1_0 a1_1 t245 _ ?side1 ?side2 ?side3 ?side4 A3.out).mono ?_); (case side1 => exact qC HR0_0.out HB.out); (case side2 => exact HC0_0.out); (case side3 => exact qC HR1_0.out HB.out); (case side4 => exact HC1_0.out); rintro e w15 ⟨rfl, hb⟩; refine ⟨_, rfl, ?_⟩; have n0_ := Aside0.mk (blk_below (qB BK242.out) hb); have n1_ := Aside0.mk (blk_below (qB BK243.out) hb); have n2_ := Aside0.mk (blk_below (qB BK244.out) hb); have n3_ := Aside0.mk (below_step (qW HB.out) hb); clear BK242 BK243 BK244 HB; have BK242 := n0_; have BK243 := n1_; have BK244 := n2_; have HB := n3_; clear n0_ n1_ n2_ n3_; (try clear hb); (try clear hb2); (try clear hk); (try clear hi)))
 have n0_ := Aside0.mk (blk_drew BK242.out)
 have n1_ := Aside0.mk (blk_drew BK243.out)
 have n2_ := Aside0.mk (blk_drew BK244.out)
 have n3_ := Aside0.mk (below_drew1 HB.out)
 clear BK242 BK243 BK244 HB
 have BK242 := n0_
 have BK243 := n1_
 have BK244 := n2_
 have HB := n3_
 clear n0_ n1_ n2_ n3_
 refine start_ (n := 8) (S := fun w' => w'.cell? ⟨gb242, 0, none⟩ = some (.slice A0_0 l0_0.length c0_0) ∧ w'.cell? ⟨gb242, 1, none⟩ = some (.int .i64 a0_1) ∧ w'.cell? ⟨gb243, 0, none⟩ = some (.slice A1_0 l1_0.length c1_0) ∧ w'.cell? ⟨gb243, 1, none⟩ = some (.int .i64 a1_1)) (ds := []) #[false, false, false, false, false, false, false, false] (by kernel_rfl) rfl rfl ⟨(blk_cell BK242.out 0).trans rfl, (blk_cell BK242.out 1).trans rfl, (blk_cell BK243.out 0).trans rfl, (blk_cell BK243.out 1).trans rfl⟩ (fun hHeld => ?_); refine with_tabW standbyref55_Convolve.tab4 standbyref55_Convolve.bits4 (fun HT_ HW_ => ?_)
 generalize w15.drew = w16 at BK242 BK243 BK244 HB hHeld ⊢
 refine pS (i := 0) (N := some 24) #[true, false, false, false, false, false, false, false] rfl rfl HT_.out ?_
 refine pS (i := 3) (N := some 27) #[true, false, false, true, false, false, false, false] rfl rfl HT_.out ?_
 refine take_ (i := 1) (N := some 25) (v := ?_) (a' := ?_) #[true, true, false, true, false, false, false, false] rfl rfl (take_ofW HT_.out HW_.out (by kernel_rfl)) (fun _ _ _ h => h) (Or.inl ⟨by rfl, ?_⟩) hHeld ?_ ?_; rotate_left
 ·rintro w' ⟨s0, s1, s2, s3⟩
  go_simp
  with_reducible rfl
 rotate_left
 ·simp only [Act.put, List.setIfInBounds_toArray, List.set_cons_zero, List.set_cons_succ, i64_w, i32_w]
  rfl
 refine pS (i := 2) (N := some 26) #[true, true, true, true, false, false, false, false] rfl rfl HT_.out ?_
 refine pS (i := 6) (N := some 7) #[true, true, true, true, false, false, true, false] rfl rfl HT_.out ?_
 refine take_ (i := 4) (N := some 28) (v := ?_) (a' := ?_) #[true, true, true, true, true, false, true, false] rfl rfl (take_ofW HT_.out HW_.out (by kernel_rfl)) (fun _ _ _ h => h) (Or.inl ⟨by rfl, ?_⟩) hHeld ?_ ?_; rotate_left
 ·rintro w' ⟨s0, s1, s2, s3⟩
  go_simp
  with_reducible rfl
 rotate_left
 ·simp only [Act.put, List.setIfInBounds_toArray, List.set_cons_zero, List.set_cons_succ, i64_w, i32_w]
  rfl
 refine pS (i := 5) (N := some 29) #[true, true, true, true, true, true, true, false] rfl rfl HT_.out ?_
 refine pS (i := 7) (N := some 8) #[true, true, true, true, true, true, true, true] rfl rfl HT_.out ?_
 refine done_ (done_of HT_.out (by kernel_rfl)) ?_
 try go_wp2
 have n0_ := Aside0.mk (blk_drew BK242.out)
 have n1_ := Aside0.mk (blk_drew BK243.out)
 have n2_ := Aside0.mk (blk_drew BK244.out)
 have n3_ := Aside0.mk (below_drew1 HB.out)
 clear BK242 BK243 BK244 HB
 have BK242 := n0_
 have BK243 := n1_
 have BK244 := n2_
 have HB := n3_
 clear n0_ n1_ n2_ n3_
 refine start_ (n := 7) (S := fun w' => w'.cell? ⟨gb242, 0, none⟩ = some (.slice A0_0 l0_0.length c0_0) ∧ w'.cell? ⟨gb242, 1, none⟩ = some (.int .i64 a0_1) ∧ w'.cell? ⟨gb243, 0, none⟩ = some (.slice A1_0 l1_0.length c1_0) ∧ w'.cell? ⟨gb243, 1, none⟩ = some (.int .i64 a1_1)) (ds := []) #[false, false, false, false, false, false, false] (by kernel_rfl) rfl rfl ⟨(blk_cell BK242.out 0).trans rfl, (blk_cell BK242.out 1).trans rfl, (blk_cell BK243.out 0).trans rfl, (blk_cell BK243.out 1).trans rfl⟩ (fun hHeld => ?_)
 generalize w16.drew = w17 at BK242 BK243 BK244 HB hHeld ⊢
 refine pure_ (i := 3) (N := some 37) (v := ?_) (a' := ?_) #[false, false, false, true, false, false, false] rfl rfl (by kernel_rfl) (fun _ _ _ h => h) (Or.inl ⟨by rfl, ?_⟩) ?_ ?_; rotate_left
 ·intro w'
  go_simp
  with_reducible rfl
 rotate_left
 ·simp only [Act.put, List.setIfInBounds_toArray, List.set_cons_zero, List.set_cons_succ, i64_w, i32_w]
  rfl
 refine take_ (i := 0) (N := some 34) (v := ?_) (a' := ?_) #[true, false, false, true, false, false, false] rfl rfl (by kernel_rfl) (fun _ _ _ h => h) (Or.inl ⟨by rfl, ?_⟩) hHeld ?_ ?_; rotate_left
 ·rintro w' ⟨s0, s1, s2, s3⟩
  go_simp
  with_reducible rfl
 rotate_left
 ·simp only [Act.put, List.setIfInBounds_toArray, List.set_cons_zero, List.set_cons_succ, i64_w, i32_w]
  rfl
 refine take_ (i := 2) (N := some 36) (v := ?_) (a' := ?_) #[true, false, true, true, false, false, false] rfl rfl (by kernel_rfl) (fun _ _ _ h => h) (Or.inl ⟨by rfl, ?_⟩) hHeld ?_ ?_; rotate_left
 ·rintro w' ⟨s0, s1, s2, s3⟩
  go_simp
  with_reducible rfl
 rotate_left
 ·simp only [Act.put, List.setIfInBounds_toArray, List.set_cons_zero, List.set_cons_succ, i64_w, i32_w]
  rfl
 refine one_ (i := 1) (N := some 35) #[true, true, true, true, false, false, false] rfl rfl (by kernel_rfl) (by decide) (fun K hK => ?_)
 refine goes_ Try.func45 (by kernel_rfl) rfl #[.agg #[.slice A0_0 l0_0.length c0_0, .int .i64 a0_1], .int .i64 0] (by rfl) rfl rfl (by (try simp only [List.map_toArray, List.map_cons, List.map_nil]); first | done | rfl | (simp only [List.length_drop, List.length_take]; rfl)) ?_
 with_reducible refine (standbyref55_value.calls _ _ l0_0 a0_1 0 t246 _ ?side1 ?side2 A5.out).mono ?_
 (case side1 => exact qC HR0_0.out HB.out)
 (case side2 => exact HC0_0.out)
 rintro e w18 ⟨rfl, hb⟩
 refine ⟨_, rfl, ?_⟩
 have n0_ := Aside0.mk (blk_below (qB BK242.out) hb)
 have n1_ := Aside0.mk (blk_below (qB BK243.out) hb)
 have n2_ := Aside0.mk (blk_below (qB BK244.out) hb)
 have n3_ := Aside0.mk (below_step (qW HB.out) hb)
 clear BK242 BK243 BK244 HB
 have BK242 := n0_
 have BK243 := n1_
 have BK244 := n2_
 have HB := n3_
 clear n0_ n1_ n2_ n3_
 (try clear hb); (try clear hb2); (try clear hk); (try clear hi)
 refine hK.out _ _ ⟨(blk_cell BK242.out 0).trans rfl, (blk_cell BK242.out 1).trans rfl, (blk_cell BK243.out 0).trans rfl, (blk_cell BK243.out 1).trans rfl⟩ (fun hHeld => ?_); clear hK K
 refine norm_ (a' := ?_) ?_ ?_; rotate_left
 ·show Act.put _ (some 35) _ = _
  simp only [Act.put, List.setIfInBounds_toArray, List.set_cons_zero, List.set_cons_succ, i64_w, i32_w]
  rfl
 refine one_ (i := 4) (N := some 38) #[true, true, true, true, true, false, false] rfl rfl (by kernel_rfl) (by decide) (fun K hK => ?_)
 refine goes_ Try.func45 (by kernel_rfl) rfl #[.agg #[.slice A1_0 l1_0.length c1_0, .int .i64 a1_1], .int .i64 (wrap64 ((wrap64 ((l0_0.length : Int) + (l1_0.length : Int))) - 2))] (by rfl) rfl rfl (by (try simp only [List.map_toArray, List.map_cons, List.map_nil]); first | done | rfl | (simp only [List.length_drop, List.length_take]; rfl)) ?_
 with_reducible refine (standbyref55_value.calls _ _ l1_0 a1_1 (wrap64 ((wrap64 ((l0_0.length : Int) + (l1_0.length : Int))) - 2)) t247 _ ?side1 ?side2 A6.out).mono ?_
 (case side1 => exact qC HR1_0.out HB.out)
 (case side2 => exact HC1_0.out)
 rintro e w19 ⟨rfl, hb⟩
 refine ⟨_, rfl, ?_⟩
 have n0_ := Aside0.mk (blk_below (qB BK242.out) hb)
 have n1_ := Aside0.mk (blk_below (qB BK243.out) hb)
 have n2_ := Aside0.mk (blk_below (qB BK244.out) hb)
 have n3_ := Aside0.mk (below_step (qW HB.out) hb)
 clear BK242 BK243 BK244 HB
 have BK242 := n0_
 have BK243 := n1_
 have BK244 := n2_
 have HB := n3_
 clear n0_ n1_ n2_ n3_
 (try clear hb); (try clear hb2); (try clear hk); (try clear hi)
 refine hK.out _ _ ⟨(blk_cell BK242.out 0).trans rfl, (blk_cell BK242.out 1).trans rfl, (blk_cell BK243.out 0).trans rfl, (blk_cell BK243.out 1).trans rfl⟩ (fun hHeld => ?_); clear hK K
 refine norm_ (a' := ?_) ?_ ?_; rotate_left
 ·show Act.put _ (some 38) _ = _
  simp only [Act.put, List.setIfInBounds_toArray, List.set_cons_zero, List.set_cons_succ, i64_w, i32_w]
  rfl
 refine pure_ (i := 5) (N := some 39) (v := ?_) (a' := ?_) #[true, true, true, true, true, true, false] rfl rfl (by kernel_rfl) (fun _ _ _ h => h) (Or.inl ⟨by rfl, ?_⟩) ?_ ?_; rotate_left
 ·intro w'
  go_simp
  with_reducible rfl
 rotate_left
 ·simp only [Act.put, List.setIfInBounds_toArray, List.set_cons_zero, List.set_cons_succ, i64_w, i32_w]
  rfl
 refine pure_ (i := 6) (N := some 10) (v := ?_) (a' := ?_) #[true, true, true, true, true, true, true] rfl rfl (by kernel_rfl) (fun _ _ _ h => h) (Or.inl ⟨by rfl, ?_⟩) ?_ ?_; rotate_left
 ·intro w'
  go_simp
  with_reducible rfl
 rotate_left
 ·simp only [Act.put, List.setIfInBounds_toArray, List.set_cons_zero, List.set_cons_succ, i64_w, i32_w]
  rfl
 refine done_ (by kernel_rfl) ?_
 try go_wp2
 go_loopg [10, 11] k (fun kq v10 v11 w' => ∃ (x10_1 : Int) (x11_1 : Int), v10 = .int .i64 x10_1 ∧ v11 = .int .i64 x11_1 ∧ Aside0 (standbyref55_Convolve.l0 kq (l0_0.length : Int) (l1_0.length : Int) (wrap64 ((wrap64 ((l0_0.length : Int) + (l1_0.length : Int))) - 2)) x10_1 x11_1 l0_0 a0_1 l1_0 a1_1 = some (r1, r2, r3)) ∧ Aside0 (kq ≤ k) ∧ Aside0 (w'.heap[gb242]? = some (.cells #[(.slice A0_0 l0_0.length c0_0), .int .i64 a0_1] 24 (0, 0))) ∧ Aside0 (w'.heap[gb243]? = some (.cells #[(.slice A1_0 l1_0.length c1_0), .int .i64 a1_1] 24 (0, 0))) ∧ Aside0 (w'.heap[gb244]? = some (.cells #[(.slice none 0 0), .int .i64 0] 24 (0, 0))) ∧ Aside0 (Below w.heap.size w w'))
 case atStart => exact ⟨(wrap64 (t246 + t247)), (1), (by first | rfl | (simp; done) | (simp [*]; done)), (by first | rfl | (simp; done) | (simp [*]; done)), H', ⟨Nat.le_refl _⟩, ⟨by exact qB BK242.out⟩, ⟨by exact qB BK243.out⟩, ⟨by exact qB BK244.out⟩, ⟨by repeat (first | (with_reducible first | exact HB.out | apply below_alloc | apply pw_below_drewN | apply below_drew1 | refine below_set ?_ GE242.out | refine below_set ?_ GE243.out | refine below_set ?_ GE244.out) | exact HB.out)⟩⟩
 case round =>
  clear H'
  try clear c1
  try clear c2
  try clear p2
  try clear c4
  try clear c4b0
  try clear c4b1
  try clear c5
  try clear p6
  try clear c10
  try clear c11
  try clear c13
  try clear hcz12_0
  try clear hcz12_1
  try clear hcz14_0
  try clear hcz14_1
  try clear hfz12_0
  try clear hfz12_1
  try clear hfz14_0
  try clear hfz14_1
  obtain ⟨x10_1, x11_1, rfl, rfl, HA, HK1, BK242, BK243, BK244, HB⟩ := hrel
  cases gk with
  | zero => exact absurd HA.out (by simp [standbyref55_Convolve.l0])
  | succ k1 =>
   have H := HA.out
   clear HA
   simp only [standbyref55_Convolve.l0] at H
   by_cases c20 : x11_1 < (l0_0.length : Int)
   ·rw [if_pos c20] at H
    have c20b0 : decide (x11_1 < (l0_0.length : Int)) = true := decide_eq_true c20
    clear c20
    replace H := Option.bind_eq_some_iff.mp H
    obtain ⟨t248, A210, H⟩ := H
    replace H : ((standbyref55_value.f l1_0 a1_1 (wrap64 ((wrap64 ((wrap64 ((l0_0.length : Int) + (l1_0.length : Int))) - 2)) - x11_1))).bind fun t249 => (standbyref55_Convolve.l0 k1 (l0_0.length : Int) (l1_0.length : Int) (wrap64 ((wrap64 ((l0_0.length : Int) + (l1_0.length : Int))) - 2)) (mn x10_1 (wrap64 (t248 + t249))) (wrap64 (x11_1 + 1)) l0_0 a0_1 l1_0 a1_1)) = some (r1, r2, r3) := H
    have A21 := Aside0.mk A210
    clear A210
    replace H := Option.bind_eq_some_iff.mp H
    obtain ⟨t249, A220, H⟩ := H
    replace H : (standbyref55_Convolve.l0 k1 (l0_0.length : Int) (l1_0.length : Int) (wrap64 ((wrap64 ((l0_0.length : Int) + (l1_0.length : Int))) - 2)) (mn x10_1 (wrap64 (t248 + t249))) (wrap64 (x11_1 + 1)) l0_0 a0_1 l1_0 a1_1) = some (r1, r2, r3) := H
    have A22 := Aside0.mk A220
    clear A220
    obtain ⟨ji23, hji23⟩ : ∃ j_ : Int, (mn x10_1 (wrap64 (t248 + t249))) = j_ := ⟨_, rfl⟩
    replace H : (standbyref55_Convolve.l0 k1 (l0_0.length : Int) (l1_0.length : Int) (wrap64 ((wrap64 ((l0_0.length : Int) + (l1_0.length : Int))) - 2)) ji23 (wrap64 (x11_1 + 1)) l0_0 a0_1 l1_0 a1_1) = some (r1, r2, r3) := by first | (rw [hji23] at H; exact H) | (simp only [hji23] at H ⊢; exact H)
    (try rw [hji23] at A21)
    (try rw [hji23] at A22)
    have hji23_ : (if (wrap64 (t248 + t249)) < x10_1 then (wrap64 (t248 + t249)) else x10_1) = ji23 := hji23
    have H' := Aside0.mk H
    clear H
    try go_wp2
    have n0_ := Aside0.mk (blk_drew BK242.out)
    have n1_ := Aside0.mk (blk_drew BK243.out)
    have n2_ := Aside0.mk (blk_drew BK244.out)
    have n3_ := Aside0.mk (below_drew1 HB.out)
    clear BK242 BK243 BK244 HB
    have BK242 := n0_
    have BK243 := n1_
    have BK244 := n2_
    have HB := n3_
    clear n0_ n1_ n2_ n3_
    refine start_ (n := 12) (S := fun w' => w'.cell? ⟨gb242, 0, none⟩ = some (.slice A0_0 l0_0.length c0_0) ∧ w'.cell? ⟨gb242, 1, none⟩ = some (.int .i64 a0_1) ∧ w'.cell? ⟨gb243, 0, none⟩ = some (.slice A1_0 l1_0.length c1_0) ∧ w'.cell? ⟨gb243, 1, none⟩ = some (.int .i64 a1_1)) (ds := []) #[false, false, false, false, false, false, false, false, false, false, false, false] (by kernel_rfl) rfl rfl ⟨(blk_cell BK242.out 0).trans rfl, (blk_cell BK242.out 1).trans rfl, (blk_cell BK243.out 0).trans rfl, (blk_cell BK243.out 1).trans rfl⟩ (fun hHeld => ?_); refine with_tabW standbyref55_Convolve.tab10 standbyref55_Convolve.bits10 (fun HT_ HW_ => ?_)
    generalize wr.drew = w24 at BK242 BK243 BK244 HB hHeld ⊢
    refine pS (i := 0) (N := some 45) #[true, false, false, false, false, false, false, false, false, false, false, false] rfl rfl HT_.out ?_
    refine pS (i := 2) (N := some 47) #[true, false, true, false, false, false, false, false, false, false, false, false] rfl rfl HT_.out ?_
    refine pS (i := 5) (N := some 50) #[true, false, true, false, false, true, false, false, false, false, false, false] rfl rfl HT_.out ?_
    refine pS (i := 6) (N := some 51) #[true, false, true, false, false, true, true, false, false, false, false, false] rfl rfl HT_.out ?_
    refine pS (i := 7) (N := some 52) #[true, false, true, false, false, true, true, true, false, false, false, false] rfl rfl HT_.out ?_
    refine take_ (i := 1) (N := some 46) (v := ?_) (a' := ?_) #[true, true, true, false, false, true, true, true, false, false, false, false] rfl rfl (take_ofW HT_.out HW_.out (by kernel_rfl)) (fun _ _ _ h => h) (Or.inl ⟨by rfl, ?_⟩) hHeld ?_ ?_; rotate_left
    ·rintro w' ⟨s0, s1, s2, s3⟩
     go_simp
     with_reducible rfl
    rotate_left
    ·simp only [Act.put, List.setIfInBounds_toArray, List.set_cons_zero, List.set_cons_succ, i64_w, i32_w]
     rfl
    refine take_ (i := 4) (N := some 49) (v := ?_) (a' := ?_) #[true, true, true, false, true, true, true, true, false, false, false, false] rfl rfl (take_ofW HT_.out HW_.out (by kernel_rfl)) (fun _ _ _ h => h) (Or.inl ⟨by rfl, ?_⟩) hHeld ?_ ?_; rotate_left
    ·rintro w' ⟨s0, s1, s2, s3⟩
     go_simp
     with_reducible rfl
    rotate_left
    ·simp only [Act.put, List.setIfInBounds_toArray, List.set_cons_zero, List.set_cons_succ, i64_w, i32_w]
     rfl
    refine one_ (i := 3) (N := some 48) #[true, true, true, true, true, true, true, true, false, false, false, false] rfl rfl (one_of HT_.out (by kernel_rfl)) (by decide) (fun K hK => ?_)
    refine goes_ Try.func45 (by kernel_rfl) rfl #[.agg #[.slice A0_0 l0_0.length c0_0, .int .i64 a0_1], .int .i64 x11_1] (by rfl) rfl rfl (by (try simp only [List.map_toArray, List.map_cons, List.map_nil]); first | done | rfl | (simp only [List.length_drop, List.length_take]; rfl)) ?_
    with_reducible refine (standbyref55_value.calls _ _ l0_0 a0_1 x11_1 t248 _ ?side1 ?side2 A21.out).mono ?_
    (case side1 => exact qC HR0_0.out HB.out)
    (case side2 => exact HC0_0.out)
    rintro e w25 ⟨rfl, hb⟩
    refine ⟨_, rfl, ?_⟩
    have n0_ := Aside0.mk (blk_below (qB BK242.out) hb)
    have n1_ := Aside0.mk (blk_below (qB BK243.out) hb)
    have n2_ := Aside0.mk (blk_below (qB BK244.out) hb)
    have n3_ := Aside0.mk (below_step (qW HB.out) hb)
    clear BK242 BK243 BK244 HB
    have BK242 := n0_
    have BK243 := n1_
    have BK244 := n2_
    have HB := n3_
    clear n0_ n1_ n2_ n3_
    (try clear hb); (try clear hb2); (try clear hk); (try clear hi)
    refine hK.out _ _ ⟨(blk_cell BK242.out 0).trans rfl, (blk_cell BK242.out 1).trans rfl, (blk_cell BK243.out 0).trans rfl, (blk_cell BK243.out 1).trans rfl⟩ (fun hHeld => ?_); clear hK K
    refine norm_ (a' := ?_) ?_ ?_; rotate_left
    ·show Act.put _ (some 48) _ = _
     simp only [Act.put, List.setIfInBounds_toArray, List.set_cons_zero, List.set_cons_succ, i64_w, i32_w]
     rfl
    refine one_ (i := 8) (N := some 53) #[true, true, true, true, true, true, true, true, true, false, false, false] rfl rfl (one_of HT_.out (by kernel_rfl)) (by decide) (fun K hK => ?_)
    refine goes_ Try.func45 (by kernel_rfl) rfl #[.agg #[.slice A1_0 l1_0.length c1_0, .int .i64 a1_1], .int .i64 (wrap64 ((wrap64 ((wrap64 ((l0_0.length : Int) + (l1_0.length : Int))) - 2)) - x11_1))] (by rfl) rfl rfl (by (try simp only [List.map_toArray, List.map_cons, List.map_nil]); first | done | rfl | (simp only [List.length_drop, List.length_take]; rfl)) ?_
    with_reducible refine (standbyref55_value.calls _ _ l1_0 a1_1 (wrap64 ((wrap64 ((wrap64 ((l0_0.length : Int) + (l1_0.length : Int))) - 2)) - x11_1)) t249 _ ?side1 ?side2 A22.out).mono ?_
    (case side1 => exact qC HR1_0.out HB.out)
    (case side2 => exact HC1_0.out)
    rintro e w26 ⟨rfl, hb⟩
    refine ⟨_, rfl, ?_⟩
    have n0_ := Aside0.mk (blk_below (qB BK242.out) hb)
    have n1_ := Aside0.mk (blk_below (qB BK243.out) hb)
    have n2_ := Aside0.mk (blk_below (qB BK244.out) hb)
    have n3_ := Aside0.mk (below_step (qW HB.out) hb)
    clear BK242 BK243 BK244 HB
    have BK242 := n0_
    have BK243 := n1_
    have BK244 := n2_
    have HB := n3_
    clear n0_ n1_ n2_ n3_
    (try clear hb); (try clear hb2); (try clear hk); (try clear hi)
    refine hK.out _ _ ⟨(blk_cell BK242.out 0).trans rfl, (blk_cell BK242.out 1).trans rfl, (blk_cell BK243.out 0).trans rfl, (blk_cell BK243.out 1).trans rfl⟩ (fun hHeld => ?_); clear hK K
    refine norm_ (a' := ?_) ?_ ?_; rotate_left
    ·show Act.put _ (some 53) _ = _
     simp only [Act.put, List.setIfInBounds_toArray, List.set_cons_zero, List.set_cons_succ, i64_w, i32_w]
     rfl
    refine pS (i := 9) (N := some 54) #[true, true, true, true, true, true, true, true, true, true, false, false] rfl rfl HT_.out ?_
    refine pS (i := 10) (N := some 55) #[true, true, true, true, true, true, true, true, true, true, true, false] rfl rfl HT_.out ?_
    refine pS (i := 11) (N := some 10) #[true, true, true, true, true, true, true, true, true, true, true, true] rfl rfl HT_.out ?_
    refine done_ (done_of HT_.out (by kernel_rfl)) ?_
    try go_wp2
    go_roundg k1
    case measure => have := HK1.out; omega
    case rel => exact ⟨(ji23), (wrap64 (x11_1 + 1)), (by first | rfl | (simp; done) | (simp only [← hji23] <;> (first | rfl | simp)) | (simp [*]; done)), (by first | rfl | (simp; done) | (simp [*]; done)), H', ⟨by have := HK1.out; omega⟩, ⟨by exact qB BK242.out⟩, ⟨by exact qB BK243.out⟩, ⟨by exact qB BK244.out⟩, ⟨by repeat (first | (with_reducible first | exact HB.out | apply below_alloc | apply pw_below_drewN | apply below_drew1 | refine below_set ?_ GE242.out | refine below_set ?_ GE243.out | refine below_set ?_ GE244.out) | exact HB.out)⟩⟩
   ·rw [if_neg c20] at H
    have c20b0 : decide (x11_1 < (l0_0.length : Int)) = false := decide_eq_false c20
    clear c20
    replace H := Option.bind_eq_some_iff.mp H
    obtain ⟨t250, A270, H⟩ := H
    replace H : ((standbyref55_value.f l1_0 a1_1 0).bind fun t251 => (standbyref55_Convolve.l1 k1 (l1_0.length : Int) (wrap64 ((wrap64 ((l0_0.length : Int) + (l1_0.length : Int))) - 2)) x10_1 (wrap64 (t250 + t251)) 1 l0_0 a0_1 l1_0 a1_1)) = some (r1, r2, r3) := H
    have A27 := Aside0.mk A270
    clear A270
    replace H := Option.bind_eq_some_iff.mp H
    obtain ⟨t251, A280, H⟩ := H
    replace H : (standbyref55_Convolve.l1 k1 (l1_0.length : Int) (wrap64 ((wrap64 ((l0_0.length : Int) + (l1_0.length : Int))) - 2)) x10_1 (wrap64 (t250 + t251)) 1 l0_0 a0_1 l1_0 a1_1) = some (r1, r2, r3) := H
    have A28 := Aside0.mk A280
    clear A280
    have H' := Aside0.mk H
    clear H
    try go_wp2
    have n0_ := Aside0.mk (blk_drew BK242.out)
    have n1_ := Aside0.mk (blk_drew BK243.out)
    have n2_ := Aside0.mk (blk_drew BK244.out)
    have n3_ := Aside0.mk (below_drew1 HB.out)
    clear BK242 BK243 BK244 HB
    have BK242 := n0_
    have BK243 := n1_
    have BK244 := n2_
    have HB := n3_
    clear n0_ n1_ n2_ n3_
    refine start_ (n := 7) (S := fun w' => w'.cell? ⟨gb242, 0, none⟩ = some (.slice A0_0 l0_0.length c0_0) ∧ w'.cell? ⟨gb242, 1, none⟩ = some (.int .i64 a0_1) ∧ w'.cell? ⟨gb243, 0, none⟩ = some (.slice A1_0 l1_0.length c1_0) ∧ w'.cell? ⟨gb243, 1, none⟩ = some (.int .i64 a1_1)) (ds := []) #[false, false, false, false, false, false, false] (by kernel_rfl) rfl rfl ⟨(blk_cell BK242.out 0).trans rfl, (blk_cell BK242.out 1).trans rfl, (blk_cell BK243.out 0).trans rfl, (blk_cell BK243.out 1).trans rfl⟩ (fun hHeld => ?_)
    generalize wr.drew = w29 at BK242 BK243 BK244 HB hHeld ⊢
    refine pure_ (i := 1) (N := some 57) (v := ?_) (a' := ?_) #[false, true, false, false, false, false, false] rfl rfl (by kernel_rfl) (fun _ _ _ h => h) (Or.inl ⟨by rfl, ?_⟩) ?_ ?_; rotate_left
    ·intro w'
     go_simp
     with_reducible rfl
    rotate_left
    ·simp only [Act.put, List.setIfInBounds_toArray, List.set_cons_zero, List.set_cons_succ, i64_w, i32_w]
     rfl
    refine take_ (i := 0) (N := some 56) (v := ?_) (a' := ?_) #[true, true, false, false, false, false, false] rfl rfl (by kernel_rfl) (fun _ _ _ h => h) (Or.inl ⟨by rfl, ?_⟩) hHeld ?_ ?_; rotate_left
    ·rintro w' ⟨s0, s1, s2, s3⟩
     go_simp
     with_reducible rfl
    rotate_left
    ·simp only [Act.put, List.setIfInBounds_toArray, List.set_cons_zero, List.set_cons_succ, i64_w, i32_w]
     rfl
    refine take_ (i := 3) (N := some 59) (v := ?_) (a' := ?_) #[true, true, false, true, false, false, false] rfl rfl (by kernel_rfl) (fun _ _ _ h => h) (Or.inl ⟨by rfl, ?_⟩) hHeld ?_ ?_; rotate_left
    ·rintro w' ⟨s0, s1, s2, s3⟩
     go_simp
     with_reducible rfl
    rotate_left
    ·simp only [Act.put, List.setIfInBounds_toArray, List.set_cons_zero, List.set_cons_succ, i64_w, i32_w]
     rfl
    refine one_ (i := 2) (N := some 58) #[true, true, true, true, false, false, false] rfl rfl (by kernel_rfl) (by decide) (fun K hK => ?_)
    refine goes_ Try.func45 (by kernel_rfl) rfl #[.agg #[.slice A0_0 l0_0.length c0_0, .int .i64 a0_1], .int .i64 (wrap64 ((wrap64 ((l0_0.length : Int) + (l1_0.length : Int))) - 2))] (by rfl) rfl rfl (by (try simp only [List.map_toArray, List.map_cons, List.map_nil]); first | done | rfl | (simp only [List.length_drop, List.length_take]; rfl)) ?_
    with_reducible refine (standbyref55_value.calls _ _ l0_0 a0_1 (wrap64 ((wrap64 ((l0_0.length : Int) + (l1_0.length : Int))) - 2)) t250 _ ?side1 ?side2 A27.out).mono ?_
    (case side1 => exact qC HR0_0.out HB.out)
    (case side2 => exact HC0_0.out)
    rintro e w30 ⟨rfl, hb⟩
    refine ⟨_, rfl, ?_⟩
    have n0_ := Aside0.mk (blk_below (qB BK242.out) hb)
    have n1_ := Aside0.mk (blk_below (qB BK243.out) hb)
    have n2_ := Aside0.mk (blk_below (qB BK244.out) hb)
    have n3_ := Aside0.mk (below_step (qW HB.out) hb)
    clear BK242 BK243 BK244 HB
    have BK242 := n0_
    have BK243 := n1_
    have BK244 := n2_
    have HB := n3_
    clear n0_ n1_ n2_ n3_
    (try clear hb); (try clear hb2); (try clear hk); (try clear hi)
    refine hK.out _ _ ⟨(blk_cell BK242.out 0).trans rfl, (blk_cell BK242.out 1).trans rfl, (blk_cell BK243.out 0).trans rfl, (blk_cell BK243.out 1).trans rfl⟩ (fun hHeld => ?_); clear hK K
    refine norm_ (a' := ?_) ?_ ?_; rotate_left
    ·show Act.put _ (some 58) _ = _
     simp only [Act.put, List.setIfInBounds_toArray, List.set_cons_zero, List.set_cons_succ, i64_w, i32_w]
     rfl
    refine one_ (i := 4) (N := some 60) #[true, true, true, true, true, false, false] rfl rfl (by kernel_rfl) (by decide) (fun K hK => ?_)
    refine goes_ Try.func45 (by kernel_rfl) rfl #[.agg #[.slice A1_0 l1_0.length c1_0, .int .i64 a1_1], .int .i64 0] (by rfl) rfl rfl (by (try simp only [List.map_toArray, List.map_cons, List.map_nil]); first | done | rfl | (simp only [List.length_drop, List.length_take]; rfl)) ?_
    with_reducible refine (standbyref55_value.calls _ _ l1_0 a1_1 0 t251 _ ?side1 ?side2 A28.out).mono ?_
    (case side1 => exact qC HR1_0.out HB.out)
    (case side2 => exact HC1_0.out)
    rintro e w31 ⟨rfl, hb⟩
    refine ⟨_, rfl, ?_⟩
    have n0_ := Aside0.mk (blk_below (qB BK242.out) hb)
    have n1_ := Aside0.mk (blk_below (qB BK243.out) hb)
    have n2_ := Aside0.mk (blk_below (qB BK244.out) hb)
    have n3_ := Aside0.mk (below_step (qW HB.out) hb)
    clear BK242 BK243 BK244 HB
    have BK242 := n0_
    have BK243 := n1_
    have BK244 := n2_
    have HB := n3_
    clear n0_ n1_ n2_ n3_
    (try clear hb); (try clear hb2); (try clear hk); (try clear hi)
    refine hK.out _ _ ⟨(blk_cell BK242.out 0).trans rfl, (blk_cell BK242.out 1).trans rfl, (blk_cell BK243.out 0).trans rfl, (blk_cell BK243.out 1).trans rfl⟩ (fun hHeld => ?_); clear hK K
    refine norm_ (a' := ?_) ?_ ?_; rotate_left
    ·show Act.put _ (some 60) _ = _
     simp only [Act.put, List.setIfInBounds_toArray, List.set_cons_zero, List.set_cons_succ, i64_w, i32_w]
     rfl
    refine pure_ (i := 5) (N := some 61) (v := ?_) (a' := ?_) #[true, true, true, true, true, true, false] rfl rfl (by kernel_rfl) (fun _ _ _ h => h) (Or.inl ⟨by rfl, ?_⟩) ?_ ?_; rotate_left
    ·intro w'
     go_simp
     with_reducible rfl
    rotate_left
    ·simp only [Act.put, List.setIfInBounds_toArray, List.set_cons_zero, List.set_cons_succ, i64_w, i32_w]
     rfl
    refine pure_ (i := 6) (N := some 12) (v := ?_) (a' := ?_) #[true, true, true, true, true, true, true] rfl rfl (by kernel_rfl) (fun _ _ _ h => h) (Or.inl ⟨by rfl, ?_⟩) ?_ ?_; rotate_left
    ·intro w'
     go_simp
     with_reducible rfl
    rotate_left
    ·simp only [Act.put, List.setIfInBounds_toArray, List.set_cons_zero, List.set_cons_succ, i64_w, i32_w]
     rfl
    refine done_ (by kernel_rfl) ?_
    try go_wp2
    go_loopg [12, 13] k1 (fun kq v12 v13 w' => ∃ (x12_2 : Int) (x13_2 : Int), v12 = .int .i64 x12_2 ∧ v13 = .int .i64 x13_2 ∧ Aside0 (standbyref55_Convolve.l1 kq (l1_0.length : Int) (wrap64 ((wrap64 ((l0_0.length : Int) + (l1_0.length : Int))) - 2)) x10_1 x12_2 x13_2 l0_0 a0_1 l1_0 a1_1 = some (r1, r2, r3)) ∧ Aside0 (kq ≤ k1) ∧ Aside0 (w'.heap[gb242]? = some (.cells #[(.slice A0_0 l0_0.length c0_0), .int .i64 a0_1] 24 (0, 0))) ∧ Aside0 (w'.heap[gb243]? = some (.cells #[(.slice A1_0 l1_0.length c1_0), .int .i64 a1_1] 24 (0, 0))) ∧ Aside0 (w'.heap[gb244]? = some (.cells #[(.slice none 0 0), .int .i64 0] 24 (0, 0))) ∧ Aside0 (Below w.heap.size w w'))
    case atStart => exact ⟨(wrap64 (t250 + t251)), (1), (by first | rfl | (simp; done) | (simp [*]; done)), (by first | rfl | (simp; done) | (simp [*]; done)), H', ⟨Nat.le_refl _⟩, ⟨by exact qB BK242.out⟩, ⟨by exact qB BK243.out⟩, ⟨by exact qB BK244.out⟩, ⟨by repeat (first | (with_reducible first | exact HB.out | apply below_alloc | apply pw_below_drewN | apply below_drew1 | refine below_set ?_ GE242.out | refine below_set ?_ GE243.out | refine below_set ?_ GE244.out) | exact HB.out)⟩⟩
    case round =>
     clear H'
     try clear c1
     try clear c2
     try clear p2
     try clear c4
     try clear c4b0
     try clear c4b1
     try clear c5
     try clear p6
     try clear c10
     try clear c11
     try clear c13
     try clear c20
     try clear c20b0
     try clear c22
     try clear hcz12_0
     try clear hcz12_1
     try clear hcz14_0
     try clear hcz14_1
     try clear hfz12_0
     try clear hfz12_1
     try clear hfz14_0
     try clear hfz14_1
     try clear p2
     try clear p6
     obtain ⟨x12_2, x13_2, rfl, rfl, HA, HK2, BK242, BK243, BK244, HB⟩ := hrel
     cases gk with
     | zero => exact absurd HA.out (by simp [standbyref55_Convolve.l1])
     | succ k2 =>
      have H := HA.out
      clear HA
      simp only [standbyref55_Convolve.l1] at H
      by_cases c32 : x13_2 < (l1_0.length : Int)
      ·rw [if_pos c32] at H
       have c32b0 : decide (x13_2 < (l1_0.length : Int)) = true := decide_eq_true c32
       clear c32
       replace H := Option.bind_eq_some_iff.mp H
       obtain ⟨t252, A330, H⟩ := H
       replace H : ((standbyref55_value.f l1_0 a1_1 x13_2).bind fun t253 => (standbyref55_Convolve.l1 k2 (l1_0.length : Int) (wrap64 ((wrap64 ((l0_0.length : Int) + (l1_0.length : Int))) - 2)) x10_1 (mn x12_2 (wrap64 (t252 + t253))) (wrap64 (x13_2 + 1)) l0_0 a0_1 l1_0 a1_1)) = some (r1, r2, r3) := H
       have A33 := Aside0.mk A330
       clear A330
       replace H := Option.bind_eq_some_iff.mp H
       obtain ⟨t253, A340, H⟩ := H
       replace H : (standbyref55_Convolve.l1 k2 (l1_0.length : Int) (wrap64 ((wrap64 ((l0_0.length : Int) + (l1_0.length : Int))) - 2)) x10_1 (mn x12_2 (wrap64 (t252 + t253))) (wrap64 (x13_2 + 1)) l0_0 a0_1 l1_0 a1_1) = some (r1, r2, r3) := H
       have A34 := Aside0.mk A340
       clear A340
       obtain ⟨ji35, hji35⟩ : ∃ j_ : Int, (mn x12_2 (wrap64 (t252 + t253))) = j_ := ⟨_, rfl⟩
       replace H : (standbyref55_Convolve.l1 k2 (l1_0.length : Int) (wrap64 ((wrap64 ((l0_0.length : Int) + (l1_0.length : Int))) - 2)) x10_1 ji35 (wrap64 (x13_2 + 1)) l0_0 a0_1 l1_0 a1_1) = some (r1, r2, r3) := by first | (rw [hji35] at H; exact H) | (simp only [hji35] at H ⊢; exact H)
       (try rw [hji35] at A33)
       (try rw [hji35] at A34)
       have hji35_ : (if (wrap64 (t252 + t253)) < x12_2 then (wrap64 (t252 + t253)) else x12_2) = ji35 := hji35
       have H' := Aside0.mk H
       clear H
       try go_wp2
       have n0_ := Aside0.mk (blk_drew BK242.out)
       have n1_ := Aside0.mk (blk_drew BK243.out)
       have n2_ := Aside0.mk (blk_drew BK244.out)
       have n3_ := Aside0.mk (below_drew1 HB.out)
       clear BK242 BK243 BK244 HB
       have BK242 := n0_
       have BK243 := n1_
       have BK244 := n2_
       have HB := n3_
       clear n0_ n1_ n2_ n3_
       refine start_ (n := 12) (S := fun w' => w'.cell? ⟨gb242, 0, none⟩ = some (.slice A0_0 l0_0.length c0_0) ∧ w'.cell? ⟨gb242, 1, none⟩ = some (.int .i64 a0_1) ∧ w'.cell? ⟨gb243, 0, none⟩ = some (.slice A1_0 l1_0.length c1_0) ∧ w'.cell? ⟨gb243, 1, none⟩ = some (.int .i64 a1_1)) (ds := []) #[false, false, false, false, false, false, false, false, false, false, false, false] (by kernel_rfl) rfl rfl ⟨(blk_cell BK242.out 0).trans rfl, (blk_cell BK242.out 1).trans rfl, (blk_cell BK243.out 0).trans rfl, (blk_cell BK243.out 1).trans rfl⟩ (fun hHeld => ?_); refine with_tabW standbyref55_Convolve.tab15 standbyref55_Convolve.bits15 (fun HT_ HW_ => ?_)
       generalize wr.drew = w36 at BK242 BK243 BK244 HB hHeld ⊢
       refine pS (i := 0) (N := some 67) #[true, false, false, false, false, false, false, false, false, false, false, false] rfl rfl HT_.out ?_
       refine pS (i := 2) (N := some 69) #[true, false, true, false, false, false, false, false, false, false, false, false] rfl rfl HT_.out ?_
       refine pS (i := 3) (N := some 70) #[true, false, true, true, false, false, false, false, false, false, false, false] rfl rfl HT_.out ?_
       refine pS (i := 4) (N := some 71) #[true, false, true, true, true, false, false, false, false, false, false, false] rfl rfl HT_.out ?_
       refine pS (i := 7) (N := some 74) #[true, false, true, true, true, false, false, true, false, false, false, false] rfl rfl HT_.out ?_
       refine take_ (i := 1) (N := some 68) (v := ?_) (a' := ?_) #[true, true, true, true, true, false, false, true, false, false, false, false] rfl rfl (take_ofW HT_.out HW_.out (by kernel_rfl)) (fun _ _ _ h => h) (Or.inl ⟨by rfl, ?_⟩) hHeld ?_ ?_; rotate_left
       ·rintro w' ⟨s0, s1, s2, s3⟩
        go_simp
        with_reducible rfl
       rotate_left
       ·simp only [Act.put, List.setIfInBounds_toArray, List.set_cons_zero, List.set_cons_succ, i64_w, i32_w]
        rfl
       refine take_ (i := 6) (N := some 73) (v := ?_) (a' := ?_) #[true, true, true, true, true, false, true, true, false, false, false, false] rfl rfl (take_ofW HT_.out HW_.out (by kernel_rfl)) (fun _ _ _ h => h) (Or.inl ⟨by rfl, ?_⟩) hHeld ?_ ?_; rotate_left
       ·rintro w' ⟨s0, s1, s2, s3⟩
        go_simp
        with_reducible rfl
       rotate_left
       ·simp only [Act.put, List.setIfInBounds_toArray, List.set_cons_zero, List.set_cons_succ, i64_w, i32_w]
        rfl
       refine one_ (i := 5) (N := some 72) #[true, true, true, true, true, true, true, true, false, false, false, false] rfl rfl (one_of HT_.out (by kernel_rfl)) (by decide) (fun K hK => ?_)
       refine goes_ Try.func45 (by kernel_rfl) rfl #[.agg #[.slice A0_0 l0_0.length c0_0, .int .i64 a0_1], .int .i64 (wrap64 ((wrap64 ((wrap64 ((l0_0.length : Int) + (l1_0.length : Int))) - 2)) - x13_2))] (by rfl) rfl rfl (by (try simp only [List.map_toArray, List.map_cons, List.map_nil]); first | done | rfl | (simp only [List.length_drop, List.length_take]; rfl)) ?_
       with_reducible refine (standbyref55_value.calls _ _ l0_0 a0_1 (wrap64 ((wrap64 ((wrap64 ((l0_0.length : Int) + (l1_0.length : Int))) - 2)) - x13_2)) t252 _ ?side1 ?side2 A33.out).mono ?_
       (case side1 => exact qC HR0_0.out HB.out)
       (case side2 => exact HC0_0.out)
       rintro e w37 ⟨rfl, hb⟩
       refine ⟨_, rfl, ?_⟩
       have n0_ := Aside0.mk (blk_below (qB BK242.out) hb)
       have n1_ := Aside0.mk (blk_below (qB BK243.out) hb)
       have n2_ := Aside0.mk (blk_below (qB BK244.out) hb)
       have n3_ := Aside0.mk (below_step (qW HB.out) hb)
       clear BK242 BK243 BK244 HB
       have BK242 := n0_
       have BK243 := n1_
       have BK244 := n2_
       have HB := n3_
       clear n0_ n1_ n2_ n3_
       (try clear hb); (try clear hb2); (try clear hk); (try clear hi)
       refine hK.out _ _ ⟨(blk_cell BK242.out 0).trans rfl, (blk_cell BK242.out 1).trans rfl, (blk_cell BK243.out 0).trans rfl, (blk_cell BK243.out 1).trans rfl⟩ (fun hHeld => ?_); clear hK K
       refine norm_ (a' := ?_) ?_ ?_; rotate_left
       ·show Act.put _ (some 72) _ = _
        simp only [Act.put, List.setIfInBounds_toArray, List.set_cons_zero, List.set_cons_succ, i64_w, i32_w]
        rfl
       refine one_ (i := 8) (N := some 75) #[true, true, true, true, true, true, true, true, true, false, false, false] rfl rfl (one_of HT_.out (by kernel_rfl)) (by decide) (fun K hK => ?_)
       refine goes_ Try.func45 (by kernel_rfl) rfl #[.agg #[.slice A1_0 l1_0.length c1_0, .int .i64 a1_1], .int .i64 x13_2] (by rfl) rfl rfl (by (try simp only [List.map_toArray, List.map_cons, List.map_nil]); first | done | rfl | (simp only [List.length_drop, List.length_take]; rfl)) ?_
       with_reducible refine (standbyref55_value.calls _ _ l1_0 a1_1 x13_2 t253 _ ?side1 ?side2 A34.out).mono ?_
       (case side1 => exact qC HR1_0.out HB.out)
       (case side2 => exact HC1_0.out)
       rintro e w38 ⟨rfl, hb⟩
       refine ⟨_, rfl, ?_⟩
       have n0_ := Aside0.mk (blk_below (qB BK242.out) hb)
       have n1_ := Aside0.mk (blk_below (qB BK243.out) hb)
       have n2_ := Aside0.mk (blk_below (qB BK244.out) hb)
       have n3_ := Aside0.mk (below_step (qW HB.out) hb)
       clear BK242 BK243 BK244 HB
       have BK242 := n0_
       have BK243 := n1_
       have BK244 := n2_
       have HB := n3_
       clear n0_ n1_ n2_ n3_
       (try clear hb); (try clear hb2); (try clear hk); (try clear hi)
       refine hK.out _ _ ⟨(blk_cell BK242.out 0).trans rfl, (blk_cell BK242.out 1).trans rfl, (blk_cell BK243.out 0).trans rfl, (blk_cell BK243.out 1).trans rfl⟩ (fun hHeld => ?_); clear hK K
       refine norm_ (a' := ?_) ?_ ?_; rotate_left
       ·show Act.put _ (some 75) _ = _
        simp only [Act.put, List.setIfInBounds_toArray, List.set_cons_zero, List.set_cons_succ, i64_w, i32_w]
        rfl
       refine pS (i := 9) (N := some 76) #[true, true, true, true, true, true, true, true, true, true, false, false] rfl rfl HT_.out ?_
       refine pS (i := 10) (N := some 77) #[true, true, true, true, true, true, true, true, true, true, true, false] rfl rfl HT_.out ?_
       refine pS (i := 11) (N := some 12) #[true, true, true, true, true, true, true, true, true, true, true, true] rfl rfl HT_.out ?_
       refine done_ (done_of HT_.out (by kernel_rfl)) ?_
       try go_wp2
       go_roundg k2
       case measure => have := HK1.out; have := HK2.out; omega
       case rel => exact ⟨(ji35), (wrap64 (x13_2 + 1)), (by first | rfl | (simp; done) | (simp only [← hji35] <;> (first | rfl | simp)) | (simp [*]; done)), (by first | rfl | (simp; done) | (simp [*]; done)), H', ⟨by have := HK1.out; have := HK2.out; omega⟩, ⟨by exact qB BK242.out⟩, ⟨by exact qB BK243.out⟩, ⟨by exact qB BK244.out⟩, ⟨by repeat (first | (with_reducible first | exact HB.out | apply below_alloc | apply pw_below_drewN | apply below_drew1 | refine below_set ?_ GE242.out | refine below_set ?_ GE243.out | refine below_set ?_ GE244.out) | exact HB.out)⟩⟩
      ·rw [if_neg c32] at H
       have c32b0 : decide (x13_2 < (l1_0.length : Int)) = false := decide_eq_false c32
       clear c32
       replace H := Option.bind_eq_some_iff.mp H
       obtain ⟨t254, A390, H⟩ := H
       replace H : (if (wrap64 ((wrap64 ((wrap64 ((wrap64 ((l0_0.length : Int) + (l1_0.length : Int))) - 2)) + 1)) + t254)) > 4096 then (some (([] : List Int), 0, 5)) else (standbyref55_Convolve.l2 k2 (wrap64 ((wrap64 ((l0_0.length : Int) + (l1_0.length : Int))) - 2)) t254 ([] : List Int) 0 l0_0 a0_1 l1_0 a1_1)) = some (r1, r2, r3) := H
       have A39 := Aside0.mk A390
       clear A390
       by_cases c40 : (wrap64 ((wrap64 ((wrap64 ((wrap64 ((l0_0.length : Int) + (l1_0.length : Int))) - 2)) + 1)) + t254)) > 4096
       ·rw [if_pos c40] at H
        have c40b0 : decide (4096 < (wrap64 ((wrap64 ((wrap64 ((wrap64 ((l0_0.length : Int) + (l1_0.length : Int))) - 2)) + 1)) + t254))) = true := decide_eq_true c40
        clear c40
        simp only [Option.some.injEq, Prod.mk.injEq] at H
        obtain ⟨rfl, rfl, rfl⟩ := H
        have hnb41 := NB243_242.out
        have hnc41 := NB242_243.out
        have hnb42 := NB243_244.out
        have hnc42 := NB244_243.out
        have hcz43_0 : wr.cell? ⟨gb243, 0, none⟩ = some (.slice A1_0 l1_0.length c1_0) := (blk_cell BK243.out 0).trans rfl
        have hcz43_1 : wr.cell? ⟨gb243, 1, none⟩ = some (.int .i64 a1_1) := (blk_cell BK243.out 1).trans rfl
        have hfz43_0 := blk_frozen BK243.out 0
        have hfz43_1 := blk_frozen BK243.out 1
        have hnb44 := NB242_244.out
        have hnc44 := NB244_242.out
        have hcz45_0 : wr.cell? ⟨gb242, 0, none⟩ = some (.slice A0_0 l0_0.length c0_0) := (blk_cell BK242.out 0).trans rfl
        have hcz45_1 : wr.cell? ⟨gb242, 1, none⟩ = some (.int .i64 a0_1) := (blk_cell BK242.out 1).trans rfl
        have hfz45_0 := blk_frozen BK242.out 0
        have hfz45_1 := blk_frozen BK242.out 1
        go_wp2_with (first | ((with_reducible refine gate_callee (f := 52) rfl ?_); refine goesL_ (some 84) rfl rfl Try.func52 (by kernel_rfl) rfl #[.int .i64 x10_1, .int .i64 a1_1, .int .i64 x12_2, .int .i64 a0_1] rfl (by (try simp only [List.map_toArray, List.map_cons, List.map_nil]); first | done | rfl | (simp only [List.length_drop, List.length_take]; rfl)) ?_; (with_reducible refine (standbyref55_crossing.calls x10_1 a1_1 x12_2 a0_1 t254 _ A39.out).mono ?_); rintro e w' ⟨rfl, ⟨nd, rfl⟩⟩; refine ⟨_, rfl, ?_⟩; (try (rw [drewN_self wr]; generalize hq_ : World.drewN wr _ = wr; have n0_ : Aside0 (wr.heap[gb242]? = some (.cells #[.slice A0_0 l0_0.length c0_0, .int .i64 a0_1] 24 (0, 0))) := ⟨by rw [← hq_]; exact (qB BK242.out)⟩; have n1_ : Aside0 (wr.heap[gb243]? = some (.cells #[.slice A1_0 l1_0.length c1_0, .int .i64 a1_1] 24 (0, 0))) := ⟨by rw [← hq_]; exact (qB BK243.out)⟩; have n2_ : Aside0 (wr.heap[gb244]? = some (.cells #[.slice none 0 0, .int .i64 0] 24 (0, 0))) := ⟨by rw [← hq_]; exact (qB BK244.out)⟩; have n3_ : Aside0 (Below w.heap.size w wr) := ⟨by rw [← hq_]; exact (qW HB.out)⟩; clear BK242 BK243 BK244 HB hq_; have BK242 := n0_; have BK243 := n1_; have BK244 := n2_; have HB := n3_; clear n0_ n1_ n2_ n3_)); have hcz46_0 : wr.cell? ⟨gb244, 0, none⟩ = some (.slice none 0 0) := (blk_cell BK244.out 0).trans rfl; have hcz46_1 : wr.cell? ⟨gb244, 1, none⟩ = some (.int .i64 0) := (blk_cell BK244.out 1).trans rfl; have hfz46_0 := blk_frozen BK244.out 0; have hfz46_1 := blk_frozen BK244.out 1))
        refine bodyPost_ret (results_ct rfl _ _ gb244 24 #[.slice none 0 0, .int .i64 0] (0, 0) _ rfl (by (with_reducible repeat (first | refine blk_drewN ?_ _ | refine blk_drew ?_ | refine blk_alloc ?_ _)); refine blk_put (cs := #[.slice none 0 0, .int .i64 0]) ?_ 1 _ rfl; (with_reducible repeat (first | refine blk_drewN ?_ _ | refine blk_drew ?_ | refine blk_alloc ?_ _)); refine blk_put (cs := #[.slice none 0 0, .int .i64 0]) ?_ 0 _ rfl; exact qB BK244.out) Try.underlying24 rfl (by kernel_rfl)) rfl ?_
        exact ⟨_, by first | rfl | (simp [errW_none, errW_some] <;> rfl) | (simp [*, errW_none, errW_some] <;> rfl), by first | exact Kd.R_nil _ _ _ _ _ | exact Kd.N_nil _ _ _ _ _ | exact Kd.V_nil _ _ _ _ _ | exact Kd.Q_nil _ _ _ _ _ | exact Kd.S_nil _ _ _ _ _, by repeat (first | (with_reducible first | exact HB.out | apply below_alloc | apply pw_below_drewN | apply below_drew1 | refine below_set ?_ GE242.out | refine below_set ?_ GE243.out | refine below_set ?_ GE244.out) | exact HB.out)⟩
       ·rw [if_neg c40] at H
        have c40b0 : decide (4096 < (wrap64 ((wrap64 ((wrap64 ((wrap64 ((l0_0.length : Int) + (l1_0.length : Int))) - 2)) + 1)) + t254))) = false := decide_eq_false c40
        clear c40
        have H' := Aside0.mk H
        clear H
        have hnb47 := NB243_242.out
        have hnc47 := NB242_243.out
        have hnb48 := NB243_244.out
        have hnc48 := NB244_243.out
        have hcz49_0 : wr.cell? ⟨gb243, 0, none⟩ = some (.slice A1_0 l1_0.length c1_0) := (blk_cell BK243.out 0).trans rfl
        have hcz49_1 : wr.cell? ⟨gb243, 1, none⟩ = some (.int .i64 a1_1) := (blk_cell BK243.out 1).trans rfl
        have hfz49_0 := blk_frozen BK243.out 0
        have hfz49_1 := blk_frozen BK243.out 1
        have hnb50 := NB242_244.out
        have hnc50 := NB244_242.out
        have hcz51_0 : wr.cell? ⟨gb242, 0, none⟩ = some (.slice A0_0 l0_0.length c0_0) := (blk_cell BK242.out 0).trans rfl
        have hcz51_1 : wr.cell? ⟨gb242, 1, none⟩ = some (.int .i64 a0_1) := (blk_cell BK242.out 1).trans rfl
        have hfz51_0 := blk_frozen BK242.out 0
        have hfz51_1 := blk_frozen BK242.out 1
        go_wp2_with (first | ((with_reducible refine gate_callee (f := 52) rfl ?_); refine goesL_ (some 84) rfl rfl Try.func52 (by kernel_rfl) rfl #[.int .i64 x10_1, .int .i64 a1_1, .int .i64 x12_2, .int .i64 a0_1] rfl (by (try simp only [List.map_toArray, List.map_cons, List.map_nil]); first | done | rfl | (simp only [List.length_drop, List.length_take]; rfl)) ?_; (with_reducible refine (standbyref55_crossing.calls x10_1 a1_1 x12_2 a0_1 t254 _ A39.out).mono ?_); rintro e w' ⟨rfl, ⟨nd, rfl⟩⟩; refine ⟨_, rfl, ?_⟩))
        go_loopg [15, 16] k2 (fun kq v15 v16 w' => ∃ (x15_3 : List Int) (x16_3 : Int), v16 = .int .i64 x16_3 ∧ Aside0 (standbyref55_Convolve.l2 kq (wrap64 ((wrap64 ((l0_0.length : Int) + (l1_0.length : Int))) - 2)) t254 x15_3 x16_3 l0_0 a0_1 l1_0 a1_1 = some (r1, r2, r3)) ∧ Aside0 (kq ≤ k2) ∧ Aside0 (Kd.R (Kd.int .i64) 3 w' w.heap.size (fun _ => True) v15 x15_3) ∧ Aside0 (w'.heap[gb242]? = some (.cells #[(.slice A0_0 l0_0.length c0_0), .int .i64 a0_1] 24 (0, 0))) ∧ Aside0 (w'.heap[gb243]? = some (.cells #[(.slice A1_0 l1_0.length c1_0), .int .i64 a1_1] 24 (0, 0))) ∧ Aside0 (w'.heap[gb244]? = some (.cells #[(.slice none 0 0), .int .i64 0] 24 (0, 0))) ∧ Aside0 (Below w.heap.size w w'))
        case atStart => exact ⟨(([] : List Int)), (0), (by first | rfl | (simp; done) | (simp [*]; done)), H', ⟨Nat.le_refl _⟩, ⟨by first | exact Kd.R_nil _ _ _ _ _ | exact Kd.N_nil _ _ _ _ _ | exact Kd.V_nil _ _ _ _ _ | exact Kd.Q_nil _ _ _ _ _ | exact Kd.S_nil _ _ _ _ _⟩, ⟨by exact qB BK242.out⟩, ⟨by exact qB BK243.out⟩, ⟨by exact qB BK244.out⟩, ⟨by repeat (first | (with_reducible first | exact HB.out | apply below_alloc | apply pw_below_drewN | apply below_drew1 | refine below_set ?_ GE242.out | refine below_set ?_ GE243.out | refine below_set ?_ GE244.out) | exact HB.out)⟩⟩
        case round =>
         clear H'
         try clear c1
         try clear c2
         try clear p2
         try clear c3
         try clear c4
         try clear c4b0
         try clear c4b1
         try clear c5
         try clear p6
         try clear c10
         try clear c11
         try clear c13
         try clear c20
         try clear c20b0
         try clear c22
         try clear c32
         try clear c32b0
         try clear c40
         try clear c40b0
         try clear c41
         try clear c42
         try clear c44
         try clear c45
         try clear c47
         try clear c48
         try clear c50
         try clear hcz12_0
         try clear hcz12_1
         try clear hcz14_0
         try clear hcz14_1
         try clear hcz43_0
         try clear hcz43_1
         try clear hcz45_0
         try clear hcz45_1
         try clear hcz46_0
         try clear hcz46_1
         try clear hcz49_0
         try clear hcz49_1
         try clear hcz51_0
         try clear hcz51_1
         try clear hfz12_0
         try clear hfz12_1
         try clear hfz14_0
         try clear hfz14_1
         try clear hfz43_0
         try clear hfz43_1
         try clear hfz45_0
         try clear hfz45_1
         try clear hfz46_0
         try clear hfz46_1
         try clear hfz49_0
         try clear hfz49_1
         try clear hfz51_0
         try clear hfz51_1
         try clear p2
         try clear p6
         obtain ⟨x15_3, x16_3, rfl, HA, HK3, HO_15, BK242, BK243, BK244, HB⟩ := hrel
         cases gk with
         | zero => exact absurd HA.out (by simp [standbyref55_Convolve.l2])
         | succ k3 =>
          have H := HA.out
          clear HA
          simp only [standbyref55_Convolve.l2] at H
          by_cases c52 : x16_3 ≤ (wrap64 ((wrap64 ((wrap64 ((l0_0.length : Int) + (l1_0.length : Int))) - 2)) + t254))
          case neg =>
           rw [if_neg c52] at H
           have c52b0 : decide (x16_3 ≤ (wrap64 ((wrap64 ((wrap64 ((l0_0.length : Int) + (l1_0.length : Int))) - 2)) + t254))) = false := decide_eq_false c52
           clear c52
           obtain ⟨ji62, hji62⟩ : ∃ j_ : Int, (mn a0_1 a1_1) = j_ := ⟨_, rfl⟩
           replace H : ((standbyref55_finish.f k3 x15_3 (ji62)).bind fun bt259 => (some (bt259.1, bt259.2.1, bt259.2.2))) = some (r1, r2, r3) := by first | (rw [hji62] at H; exact H) | (simp only [hji62] at H ⊢; exact H)
           have hji62_ : (if a1_1 < a0_1 then a1_1 else a0_1) = ji62 := hji62
           replace H := Option.bind_eq_some_iff.mp H
           obtain ⟨⟨t259, t262, t263⟩, A630, H⟩ := H
           replace H : (some (t259, t262, t263)) = some (r1, r2, r3) := H
           have A63 := Aside0.mk A630
           clear A630
           simp only [Option.some.injEq, Prod.mk.injEq] at H
           obtain ⟨rfl, rfl, rfl⟩ := H
           have hnb64 := NB242_243.out
           have hnc64 := NB243_242.out
           have hnb65 := NB242_244.out
           have hnc65 := NB244_242.out
           have hcz66_0 : wr.cell? ⟨gb242, 0, none⟩ = some (.slice A0_0 l0_0.length c0_0) := (blk_cell BK242.out 0).trans rfl
           have hcz66_1 : wr.cell? ⟨gb242, 1, none⟩ = some (.int .i64 a0_1) := (blk_cell BK242.out 1).trans rfl
           have hfz66_0 := blk_frozen BK242.out 0
           have hfz66_1 := blk_frozen BK242.out 1
           have hnb67 := NB243_244.out
           have hnc67 := NB244_243.out
           have hcz68_0 : wr.cell? ⟨gb243, 0, none⟩ = some (.slice A1_0 l1_0.length c1_0) := (blk_cell BK243.out 0).trans rfl
           have hcz68_1 : wr.cell? ⟨gb243, 1, none⟩ = some (.int .i64 a1_1) := (blk_cell BK243.out 1).trans rfl
           have hfz68_0 := blk_frozen BK243.out 0
           have hfz68_1 := blk_frozen BK243.out 1
           obtain ⟨Ao69, co69, eo69⟩ := Kd.R_slice HO_15.out
           subst eo69
           go_wp2_with (first | ((with_reducible refine gate_callee (f := 54) rfl ?_); refine goesL_ (some 111) rfl rfl Try.func54 (by kernel_rfl) rfl #[.slice Ao69 x15_3.length co69, .int .i64 ji62] rfl (by (try simp only [List.map_toArray, List.map_cons, List.map_nil]); first | done | (simp only [hji62]; rfl) | rfl | (simp only [List.length_drop, List.length_take]; rfl)) ?_; (with_reducible refine (standbyref55_finish.calls k3 (fun k_ => some k_ = (.slice Ao69 x15_3.length co69 : Value).ownBlock) (.slice Ao69 x15_3.length co69) x15_3 ji62 t259 t262 t263 w _ ?side1 ?side2 A63.out).mono ?_); (case side1 => repeat (first | (with_reducible first | exact HB.out | apply below_alloc | apply pw_below_drewN | apply below_drew1 | refine below_set ?_ GE242.out | refine below_set ?_ GE243.out | refine below_set ?_ GE244.out) | exact HB.out)); (case side2 => exact Kd.R_tight rfl HO_15.out); rintro e w70 ⟨v260, rfl, ho0, hb, hkp⟩; refine ⟨_, rfl, ?_⟩; have n0_ := Aside0.mk (blk_kept (qB BK242.out) hkp (fun hs_ => (fun e_ => (Kd.R_ne HO_15.out BK242.out (by decide)) e_) hs_)); have n1_ := Aside0.mk (blk_kept (qB BK243.out) hkp (fun hs_ => (fun e_ => (Kd.R_ne HO_15.out BK243.out (by decide)) e_) hs_)); have n2_ := Aside0.mk (blk_kept (qB BK244.out) hkp (fun hs_ => (fun e_ => (Kd.R_ne HO_15.out BK244.out (by decide)) e_) hs_)); have n3_ := Aside0.mk (Kd.R_mono (ok' := fun k_ => True) ho0 (fun k_ hk_ => trivial)); have n4_ := Aside0.mk (hb); clear BK242 BK243 BK244 HB HO_15; have BK242 := n0_; have BK243 := n1_; have BK244 := n2_; have HO261 := n3_; have HB := n4_; clear n0_ n1_ n2_ n3_ n4_; (try clear hb); (try clear hkp); (try clear ho0); obtain ⟨Ao71, co71, eo71⟩ := Kd.R_slice HO261.out; subst eo71; have hcz72_0 : w70.cell? ⟨gb244, 0, none⟩ = some (.slice none 0 0) := (blk_cell BK244.out 0).trans rfl; have hcz72_1 : w70.cell? ⟨gb244, 1, none⟩ = some (.int .i64 0) := (blk_cell BK244.out 1).trans rfl; have hfz72_0 := blk_frozen BK244.out 0; have hfz72_1 := blk_frozen BK244.out 1))
           refine bodyPost_ret (results_ct rfl _ _ gb244 24 #[.slice Ao71 t259.length co71, .int .i64 t262] (0, 0) _ rfl (by (with_reducible repeat (first | refine blk_drewN ?_ _ | refine blk_drew ?_ | refine blk_alloc ?_ _)); refine blk_put (cs := #[.slice Ao71 t259.length co71, .int .i64 0]) ?_ 1 _ rfl; (with_reducible repeat (first | refine blk_drewN ?_ _ | refine blk_drew ?_ | refine blk_alloc ?_ _)); refine blk_put (cs := #[.slice none 0 0, .int .i64 0]) ?_ 0 _ rfl; exact qB BK244.out) Try.underlying24 rfl (by kernel_rfl)) rfl ?_
           exact ⟨_, by first | rfl | (simp [errW_none, errW_some] <;> rfl) | (simp only [← hji62]; first | rfl | (simp [errW_none, errW_some] <;> rfl)) | (simp [*, errW_none, errW_some] <;> rfl), by exact qR (Kd.R_mono (Kd.R_far (p := ⟨gb244, 1, none⟩) (Kd.R_far (p := ⟨gb244, 0, none⟩) (Kd.R_types HO261.out BK244.out (by decide)) (fun _ hk => hk.2) (.slice Ao71 t259.length co71)) (fun _ hk => hk.2) (.int .i64 t262)) (fun _ hk => trivial)), by repeat (first | (with_reducible first | exact HB.out | apply below_alloc | apply pw_below_drewN | apply below_drew1 | refine below_set ?_ GE242.out | refine below_set ?_ GE243.out | refine below_set ?_ GE244.out) | exact HB.out)⟩
          rw [if_pos c52] at H
          have c52b0 : decide (x16_3 ≤ (wrap64 ((wrap64 ((wrap64 ((l0_0.length : Int) + (l1_0.length : Int))) - 2)) + t254))) = true := decide_eq_true c52
          clear c52
          replace H := Option.bind_eq_some_iff.mp H
          obtain ⟨t255, A530, H⟩ := H
          replace H : (if x15_3.length < 17592186044416 then (standbyref55_Convolve.l2 k3 (wrap64 ((wrap64 ((l0_0.length : Int) + (l1_0.length : Int))) - 2)) t254 (x15_3 ++ [t255]) (wrap64 (x16_3 + 1)) l0_0 a0_1 l1_0 a1_1) else (none)) = some (r1, r2, r3) := H
          have A53 := Aside0.mk A530
          clear A530
          by_cases c54 : x15_3.length < 17592186044416
          case neg =>
           rw [if_neg c54] at H
           exact absurd H (by simp)
          rw [if_pos c54] at H
          have LMc54 := Aside0.mk c54
          clear c54
          obtain ⟨y256, hy256⟩ : ∃ y_ : List Int, y_ = (x15_3 ++ [t255]) := ⟨_, rfl⟩
          replace H : (standbyref55_Convolve.l2 k3 (wrap64 ((wrap64 ((l0_0.length : Int) + (l1_0.length : Int))) - 2)) t254 y256 (wrap64 (x16_3 + 1)) l0_0 a0_1 l1_0 a1_1) = some (r1, r2, r3) := by first | (rw [hy256]; with_reducible exact H) | (have H2_ := (Option.bind_some _ _).symm.trans H; rw [hy256]; with_reducible exact H2_) | (have H2_ := (Option.bind_some _ _).symm.trans H; with_reducible exact H2_) | with_reducible exact H | (rw [hy256]; exact H) | exact H
          have Ny256 := Aside0.mk hy256
          clear hy256
          have H' := Aside0.mk H
          clear H
          have hnb55 := NB242_243.out
          have hnc55 := NB243_242.out
          have hnb56 := NB242_244.out
          have hnc56 := NB244_242.out
          have hcz57_0 : wr.cell? ⟨gb242, 0, none⟩ = some (.slice A0_0 l0_0.length c0_0) := (blk_cell BK242.out 0).trans rfl
          have hcz57_1 : wr.cell? ⟨gb242, 1, none⟩ = some (.int .i64 a0_1) := (blk_cell BK242.out 1).trans rfl
          have hfz57_0 := blk_frozen BK242.out 0
          have hfz57_1 := blk_frozen BK242.out 1
          have hnb58 := NB243_244.out
          have hnc58 := NB244_243.out
          have hcz59_0 : wr.cell? ⟨gb243, 0, none⟩ = some (.slice A1_0 l1_0.length c1_0) := (blk_cell BK243.out 0).trans rfl
          have hcz59_1 : wr.cell? ⟨gb243, 1, none⟩ = some (.int .i64 a1_1) := (blk_cell BK243.out 1).trans rfl
          have hfz59_0 := blk_frozen BK243.out 0
          have hfz59_1 := blk_frozen BK243.out 1
          go_wp2_with (first | ((with_reducible refine gate_callee (f := 53) rfl ?_); refine goesL_ (some 102) rfl rfl Try.func53 (by kernel_rfl) rfl #[.agg #[.slice A0_0 l0_0.length c0_0, .int .i64 a0_1], .agg #[.slice A1_0 l1_0.length c1_0, .int .i64 a1_1], .int .i64 x16_3] rfl (by (try simp only [List.map_toArray, List.map_cons, List.map_nil]); first | done | rfl | (simp only [List.length_drop, List.length_take]; rfl)) ?_; (with_reducible refine (standbyref55_At2.calls k3 _ _ l0_0 a0_1 _ _ l1_0 a1_1 x16_3 t255 _ ?side1 ?side2 ?side3 ?side4 A53.out).mono ?_); (case side1 => exact qC HR0_0.out HB.out); (case side2 => exact HC0_0.out); (case side3 => exact qC HR1_0.out HB.out); (case side4 => exact HC1_0.out); rintro e w60 ⟨rfl, hb⟩; refine ⟨_, rfl, ?_⟩; have n0_ := Aside0.mk (Kd.R_below (qR HO_15.out) hb); have n1_ := Aside0.mk (blk_below (qB BK242.out) hb); have n2_ := Aside0.mk (blk_below (qB BK243.out) hb); have n3_ := Aside0.mk (blk_below (qB BK244.out) hb); have n4_ := Aside0.mk (below_step (qW HB.out) hb); clear HO_15 BK242 BK243 BK244 HB; have HO_15 := n0_; have BK242 := n1_; have BK243 := n2_; have BK244 := n3_; have HB := n4_; clear n0_ n1_ n2_ n3_ n4_; (try clear hb); (try clear hb2); (try clear hk); (try clear hi)) | ((with_reducible refine gate_builtin (b := .append) (xs := #[.tmp 98, .tmp 103]) rfl ?_); at_builtin; refine Kd.R_append (Kd.int .i64) (w0 := w) w.heap.size rfl (.tmp 98) (.tmp 103) 22 3 (.int .i64 0) 8 rfl Try.underlying22 info3 rfl (by decide) (by omega) u15 x15_3 t255 [.int .i64 t255] (fun _ => True) (fun _ => False) rfl rfl ?aP (fun _ hk => hk.elim) ?aF ?aO ?aB ?aS ?aL ?_; (case aP => exact rfl); (case aB => exact (qW HB.out)); (case aF => exact (fun _ _ => trivial)); (case aO => exact (qR HO_15.out)); (case aS => exact (below_size (qW HB.out))); (case aL => have := LMc54.out; omega); intro v257 w61 ho hb hg hat; rw [← Ny256.out] at ho; have n0_ := Aside0.mk (blk_grown (qB BK242.out) hg (Kd.R_ne HO_15.out BK242.out (by decide))); have n1_ := Aside0.mk (blk_grown (qB BK243.out) hg (Kd.R_ne HO_15.out BK243.out (by decide))); have n2_ := Aside0.mk (blk_grown (qB BK244.out) hg (Kd.R_ne HO_15.out BK244.out (by decide))); have n3_ := Aside0.mk (hb); have n4_ := Aside0.mk (ho); clear BK242 BK243 BK244 HB HO_15; have BK242 := n0_; have BK243 := n1_; have BK244 := n2_; have HB := n3_; have HO258 := n4_; clear n0_ n1_ n2_ n3_ n4_ ho hb hg hat))
          go_roundg k3
          case measure => have := HK1.out; have := HK2.out; have := HK3.out; omega
          case rel => exact ⟨(y256), (wrap64 (x16_3 + 1)), (by first | rfl | (simp; done) | (simp [*]; done)), H', ⟨by have := HK1.out; have := HK2.out; have := HK3.out; omega⟩, ⟨by exact qR HO258.out⟩, ⟨by exact qB BK242.out⟩, ⟨by exact qB BK243.out⟩, ⟨by exact qB BK244.out⟩, ⟨by repeat (first | (with_reducible first | exact HB.out | apply below_alloc | apply pw_below_drewN | apply below_drew1 | refine below_set ?_ GE242.out | refine below_set ?_ GE243.out | refine below_set ?_ GE244.out) | exact HB.out)⟩⟩
end Go.Proofs.Ytanlonngekgibaa.Pr

-- Written by pp.py, a program of this session, over the translation of the given program; a machine's text: Lean checks it.
import Derived.Test.YtcflacjidabppaaGShort
import Derived.Test.YtcflacjidabppaaF56
import Derived.Test.YtcflacjidabppaaGEndT
import Derived.Test.YtcflacjidabppaaGFn
import Derived.Test.YtcflacjidabppaaGSizes
namespace Go.Proofs.Ytcflacjidabppaa.Pr
open Go.RowKit Go.Proofs.YtcflacjidabppaaW.PrintWords Go.Proofs.YtcflacjidabppaaW.PrintLast Go.Proofs.YtcflacjidabppaaW.PrintMore
attribute [local go_sem] max2_int min2_int max_two min_two max_three min_three max_four min_four   -- for this text's walks alone
set_option linter.unusedVariables false
set_option linter.unusedSimpArgs false

/-! ### planner_plan: function 35 -/
mutual
def planner_plan.l0 (sums : List Int) (last : Int) : Nat → Int → List Int → Int → Int → List Int → List Int → Int → Int → Int → List Int → List Int → List Int → List Int → Int → Option (List Int × List Int × List Int × List Int × Int × Int)
 | 0, _, _, _, _, _, _, _, _, _, _, _, _, _, _ => none
 | k + 1, x7, x15, x16, x17, x116000, x116001, x116002, x116003, x116004, x118000, x118001, x118002, x118003, x118004 => if x17 < x16 then (if 0 ≤ x17 then (if x17 < (x15.length : Int) then ((endF sums last (mx (wrap64 ((wrap64 (x17 + 1)) * x116002)) x7) (rd x15 x17)).bind fun bt122 => (if bt122.2 = true then ((some (([wrap64 ((wrap64 (x17 + 1)) * x116002)] : List Int) : List Int)).bind fun y124 => (if x118000.length + y124.length < 17592186044416 then ((some (([mx (wrap64 ((wrap64 (x17 + 1)) * x116002)) x7] : List Int) : List Int)).bind fun y130 => (if x118001.length + y130.length < 17592186044416 then (planner_plan.j1 sums last k bt122.1 bt122.1 x15 x16 x17 x116000 x116001 x116002 x116003 x116004 (x118000 ++ y124) (x118001 ++ y130) x118002 x118003 x118004) else (none))) else (none))) else (some (([] : List Int), ([] : List Int), ([] : List Int), ([] : List Int), 0, 21)))) else (none)) else (none)) else ((planner_bound.f k x118000 x118001 x118002 x118003 x118004).bind fun t148 => (some (x118000, x118001, x118002, x118003, t148, 0)))
def planner_plan.j1 (sums : List Int) (last : Int) : Nat → Int → Int → List Int → Int → Int → List Int → List Int → Int → Int → Int → List Int → List Int → List Int → List Int → Int → Option (List Int × List Int × List Int × List Int × Int × Int)
 | 0, _, _, _, _, _, _, _, _, _, _, _, _, _, _, _ => none
 | k + 1, x7, x12, x15, x16, x17, x116000, x116001, x116002, x116003, x116004, x118000, x118001, x118002, x118003, x118004 => (some (([x12] : List Int) : List Int)).bind fun y136 => (if x118002.length + y136.length < 17592186044416 then ((some (([wrap64 ((wrap64 (x12 + x116003)) + x116004)] : List Int) : List Int)).bind fun y142 => (if x118003.length + y142.length < 17592186044416 then (planner_plan.l0 sums last k x7 x15 x16 (wrap64 (x17 + 1)) x116000 x116001 x116002 x116003 x116004 x118000 x118001 (x118002 ++ y136) (x118003 ++ y142) x118004) else (none))) else (none))
end
def planner_plan.f (k : Nat) (l0_0 : List Int) (l0_1 : List Int) (a0_2 : Int) (a0_3 : Int) (a0_4 : Int) (a1 : Nat) (sums : List Int) (last : Int) : Option (List Int × List Int × List Int × List Int × Int × Int) := (planner_sizes.f l0_0 l0_1 a0_2 a0_3 a0_4).bind fun t118 => (planner_plan.l0 sums last k 0 t118 (t118.length : Int) 0 l0_0 l0_1 a0_2 a0_3 a0_4 ([] : List Int) ([] : List Int) ([] : List Int) ([] : List Int) 0)
theorem planner_plan.mono_l (sums : List Int) (last : Int) : ∀ k, (∀ y0 y1 y2 y3 y4 y5 y6 y7 y8 y9 y10 y11 y12 y13, LeO (planner_plan.l0 sums last k y0 y1 y2 y3 y4 y5 y6 y7 y8 y9 y10 y11 y12 y13) (planner_plan.l0 sums last (k + 1) y0 y1 y2 y3 y4 y5 y6 y7 y8 y9 y10 y11 y12 y13)) ∧ (∀ y0 y1 y2 y3 y4 y5 y6 y7 y8 y9 y10 y11 y12 y13 y14, LeO (planner_plan.j1 sums last k y0 y1 y2 y3 y4 y5 y6 y7 y8 y9 y10 y11 y12 y13 y14) (planner_plan.j1 sums last (k + 1) y0 y1 y2 y3 y4 y5 y6 y7 y8 y9 y10 y11 y12 y13 y14))
 | 0 => ⟨fun _ _ _ _ _ _ _ _ _ _ _ _ _ _ r h => by simp [planner_plan.l0] at h, fun _ _ _ _ _ _ _ _ _ _ _ _ _ _ _ r h => by simp [planner_plan.j1] at h⟩
 | k + 1 => by
  obtain ⟨ih0, ih1⟩ := planner_plan.mono_l sums last k
  refine ⟨?_, ?_⟩
  ·intro y0 y1 y2 y3 y4 y5 y6 y7 y8 y9 y10 y11 y12 y13
   unfold planner_plan.l0
   repeat' first
   | (with_reducible exact ih0 _ _ _ _ _ _ _ _ _ _ _ _ _ _)
   | (with_reducible exact ih1 _ _ _ _ _ _ _ _ _ _ _ _ _ _ _)
   | (with_reducible exact planner_bound.mono _ _ _ _ _ _)
   | (with_reducible exact LeO.refl _)
   | (with_reducible exact LeO.none _)
   | (with_reducible refine LeO.ite ?_ ?_)
   | (with_reducible refine LeO.bind ?_ (fun _ => ?_))
   | exact ih0 _ _ _ _ _ _ _ _ _ _ _ _ _ _
   | exact ih1 _ _ _ _ _ _ _ _ _ _ _ _ _ _ _
   | exact planner_bound.mono _ _ _ _ _ _
   | exact LeO.none _
   | refine LeO.ite ?_ ?_
   | refine LeO.bind ?_ (fun _ => ?_)
  ·intro y0 y1 y2 y3 y4 y5 y6 y7 y8 y9 y10 y11 y12 y13 y14
   unfold planner_plan.j1
   repeat' first
   | (with_reducible exact ih0 _ _ _ _ _ _ _ _ _ _ _ _ _ _)
   | (with_reducible exact ih1 _ _ _ _ _ _ _ _ _ _ _ _ _ _ _)
   | (with_reducible exact planner_bound.mono _ _ _ _ _ _)
   | (with_reducible exact LeO.refl _)
   | (with_reducible exact LeO.none _)
   | (with_reducible refine LeO.ite ?_ ?_)
   | (with_reducible refine LeO.bind ?_ (fun _ => ?_))
   | exact ih0 _ _ _ _ _ _ _ _ _ _ _ _ _ _
   | exact ih1 _ _ _ _ _ _ _ _ _ _ _ _ _ _ _
   | exact planner_bound.mono _ _ _ _ _ _
   | exact LeO.none _
   | refine LeO.ite ?_ ?_
   | refine LeO.bind ?_ (fun _ => ?_)
theorem planner_plan.mono (sums : List Int) (last : Int) : ∀ a0 a1 a2 a3 a4 a5 k, LeO (planner_plan.f k a0 a1 a2 a3 a4 a5 sums last) (planner_plan.f (k + 1) a0 a1 a2 a3 a4 a5 sums last) := by
 intro a0 a1 a2 a3 a4 a5 k
 obtain ⟨ih0, ih1⟩ := planner_plan.mono_l sums last k
 unfold planner_plan.f
 repeat' first
   | (with_reducible exact ih0 _ _ _ _ _ _ _ _ _ _ _ _ _ _)
   | (with_reducible exact ih1 _ _ _ _ _ _ _ _ _ _ _ _ _ _ _)
   | (with_reducible exact planner_bound.mono _ _ _ _ _ _)
   | (with_reducible exact LeO.refl _)
   | (with_reducible exact LeO.none _)
   | (with_reducible refine LeO.ite ?_ ?_)
   | (with_reducible refine LeO.bind ?_ (fun _ => ?_))
   | exact ih0 _ _ _ _ _ _ _ _ _ _ _ _ _ _
   | exact ih1 _ _ _ _ _ _ _ _ _ _ _ _ _ _ _
   | exact planner_bound.mono _ _ _ _ _ _
   | exact LeO.none _
   | refine LeO.ite ?_ ?_
   | refine LeO.bind ?_ (fun _ => ?_)
def planner_plan.T12 : Bool × List (List Nat × List Nat) := (true, [([], []), ([0], [0]), ([], []), ([2], [2]), ([1, 3], [1, 3]), ([], []), ([5], [5]), ([], []), ([7], [7]), ([6, 8, 4], [6, 8]), ([0, 1, 2, 3, 4, 5, 6], []), ([10, 4, 9, 0, 1, 2, 3, 4, 5, 6], [4, 10]), ([0, 1, 2, 3, 4, 5, 6, 7, 8, 9, 10, 11], []), ([12, 9, 11, 0, 1, 2, 3, 4, 5, 6, 7, 8, 9, 10, 11], [9, 12])])
def planner_plan.B12 : List Nat := [0, 1, 0, 4, 15, 0, 32, 0, 128, 511, 127, 2047, 4095, 8191]
theorem planner_plan.tab12 : rtab .any (opsOf Try.f35 12) = planner_plan.T12 := by kernel_rfl
theorem planner_plan.bits12 : waitsOk planner_plan.T12.2 planner_plan.B12 = true := by kernel_rfl
def planner_plan.T13 : Bool × List (List Nat × List Nat) := (true, [([], []), ([0], [0]), ([], []), ([2], [2]), ([1, 3], [1, 3]), ([], []), ([5], [5]), ([], []), ([], []), ([8], [8]), ([7, 9], [7, 9]), ([], []), ([11], [11]), ([10, 12], [10, 12]), ([13], [13]), ([6, 14, 4], [6, 14]), ([0, 1, 2, 3, 4, 5, 6], []), ([16, 4, 15, 0, 1, 2, 3, 4, 5, 6], [4, 16]), ([0, 1, 2, 3, 4, 5, 6, 7, 8, 9, 10, 11, 12, 13, 14, 15, 16, 17], []), ([18, 15, 17, 0, 1, 2, 3, 4, 5, 6, 7, 8, 9, 10, 11, 12, 13, 14, 15, 16, 17], [15, 18])])
def planner_plan.B13 : List Nat := [0, 1, 0, 4, 15, 0, 32, 0, 0, 256, 896, 0, 2048, 8064, 16256, 32767, 127, 131071, 262143, 524287]
theorem planner_plan.tab13 : rtab .any (opsOf Try.f35 13) = planner_plan.T13 := by kernel_rfl
theorem planner_plan.bits13 : waitsOk planner_plan.T13.2 planner_plan.B13 = true := by kernel_rfl
set_option maxHeartbeats 8000000 in
set_option maxRecDepth 100000 in
theorem planner_plan.calls (k : Nat) (A0_0 : Option Addr) (c0_0 : Nat) (l0_0 : List Int) (A0_1 : Option Addr) (c0_1 : Nat) (l0_1 : List Int) (a0_2 : Int) (a0_3 : Int) (a0_4 : Int) (a1 : Nat) (sums : List Int) (last : Int) (r1 : List Int) (r2 : List Int) (r3 : List Int) (r4 : List Int) (r5 : Int) (r6 : Int) (w : World) (hr0_0 : Kd.C (Kd.int .i64) w A0_0 l0_0.length l0_0) (hc0_0 : l0_0.length ≤ c0_0) (hr0_1 : Kd.C (Kd.int .i64) w A0_1 l0_1.length l0_1) (hc0_1 : l0_1.length ≤ c0_1) (hcar : Car w a1 sums last) (hsm : Small sums last) (hup : Up sums) (h : planner_plan.f k l0_0 l0_1 a0_2 a0_3 a0_4 a1 sums last = some (r1, r2, r3, r4, r5, r6)) :
  Calls Try.prog 35 #[.agg #[.slice A0_0 l0_0.length c0_0, .slice A0_1 l0_1.length c0_1, .int .i64 a0_2, .int .i64 a0_3, .int .i64 a0_4], .func (.func 37) #[.pointer (some ⟨a1, 0, none⟩)] #[]] w fun e w' => ∃ v0_ v1_ v2_ v3_ : Value, e = .returned (.tuple #[.agg #[v0_, v1_, v2_, v3_, .int .i64 r5], .int .i64 r6]) ∧ Kd.R (Kd.int .i64) 3 w' w.heap.size (fun k_ => some k_ ≠ (v1_ : Value).ownBlock ∧ some k_ ≠ (v2_ : Value).ownBlock ∧ some k_ ≠ (v3_ : Value).ownBlock) v0_ r1 ∧ Kd.R (Kd.int .i64) 3 w' w.heap.size (fun k_ => some k_ ≠ (v0_ : Value).ownBlock ∧ some k_ ≠ (v2_ : Value).ownBlock ∧ some k_ ≠ (v3_ : Value).ownBlock) v1_ r2 ∧ Kd.R (Kd.int .i64) 3 w' w.heap.size (fun k_ => some k_ ≠ (v0_ : Value).ownBlock ∧ some k_ ≠ (v1_ : Value).ownBlock ∧ some k_ ≠ (v3_ : Value).ownBlock) v2_ r3 ∧ Kd.R (Kd.int .i64) 3 w' w.heap.size (fun k_ => some k_ ≠ (v0_ : Value).ownBlock ∧ some k_ ≠ (v1_ : Value).ownBlock ∧ some k_ ≠ (v2_ : Value).ownBlock) v3_ r4 ∧ Below w.heap.size w w' := by
 have HCAR := Aside0.mk (show ∀ W, Below w.heap.size w W → Car W a1 sums last from fun W hW => hcar.below hW)
 have HSM := Aside0.mk hsm
 have HUP := Aside0.mk hup
 clear hcar hsm hup
 have hu24 := Try.underlying24
 have hu28 := Try.underlying28
 have HR0_0 := Aside0.mk hr0_0
 have HC0_0 := Aside0.mk hc0_0
 clear hr0_0 hc0_0
 have HR0_1 := Aside0.mk hr0_1
 have HC0_1 := Aside0.mk hc0_1
 clear hr0_1 hc0_1
 have HB := Aside0.mk (Below.refl w.heap.size w)
 have H : ((planner_sizes.f l0_0 l0_1 a0_2 a0_3 a0_4).bind fun t118 => (planner_plan.l0 sums last k 0 t118 (t118.length : Int) 0 l0_0 l0_1 a0_2 a0_3 a0_4 ([] : List Int) ([] : List Int) ([] : List Int) ([] : List Int) 0)) = some (r1, r2, r3, r4, r5, r6) := h
 clear h
 replace H := Option.bind_eq_some_iff.mp H
 obtain ⟨t118, A30, H⟩ := H
 replace H : (planner_plan.l0 sums last k 0 t118 (t118.length : Int) 0 l0_0 l0_1 a0_2 a0_3 a0_4 ([] : List Int) ([] : List Int) ([] : List Int) ([] : List Int) 0) = some (r1, r2, r3, r4, r5, r6) := H
 have A3 := Aside0.mk A30
 clear A30
 have H' := Aside0.mk H
 clear H
 go_enter Try.func35, Try.ntmps35
 go_wp2_with (first | ((with_reducible refine gate_dst (N := 2) rfl ?_); refine box_event ?hg (N := 2) ?hd (cs := #[.slice A0_0 l0_0.length c0_0, .slice A0_1 l0_1.length c0_1, .int .i64 a0_2, .int .i64 a0_3, .int .i64 a0_4]) (t := 24) ?hr ?_; (case hd => rfl); (case hg => rfl); (case hr => first | (go_simp; done) | (go_simp; rfl)); intro gb115 hg w4 hbox hb; have n0_ := Aside0.mk (below_step (qW HB.out) hb); have n1_ := Aside0.mk (hbox); have n2_ := Aside0.mk ((by rw [hg]; exact (below_size (qW HB.out)) : w.heap.size ≤ gb115)); have n3_ := Aside0.mk ((by rw [hg]; exact (below_size (qW HB.out)) : w.heap.size ≤ gb115)); clear HB; have HB := n0_; have BK115 := n1_; have GW115 := n2_; have GE115 := n3_; clear n0_ n1_ n2_ n3_ hb hbox hg) | ((with_reducible refine gate_dst (N := 4) rfl ?_); refine box_event ?hg (N := 4) ?hd (cs := #[.slice none 0 0, .slice none 0 0, .slice none 0 0, .slice none 0 0, .int .i64 0]) (t := 28) ?hr ?_; (case hd => rfl); (case hg => rfl); (case hr => first | (go_simp; done) | (go_simp; rfl)); intro gb116 hg w5 hbox hb; have n0_ := Aside0.mk (blk_below (qB BK115.out) hb); have n1_ := Aside0.mk (below_step (qW HB.out) hb); have n2_ := Aside0.mk (hbox); have n3_ := Aside0.mk ((by rw [hg]; exact (below_size (qW HB.out)) : w.heap.size ≤ gb116)); have n4_ := Aside0.mk ((by rw [hg]; exact (below_size (qW HB.out)) : w.heap.size ≤ gb116)); have n5_ := Aside0.mk ((by rw [hg]; exact Nat.ne_of_lt (blk_lt (qB BK115.out)) : gb115 ≠ gb116)); have n6_ := Aside0.mk ((by rw [hg]; exact Nat.ne_of_gt (blk_lt (qB BK115.out)) : gb116 ≠ gb115)); clear BK115 HB; have BK115 := n0_; have HB := n1_; have BK116 := n2_; have GW116 := n3_; have GE116 := n4_; have NB115_116 := n5_; have NB116_115 := n6_; clear n0_ n1_ n2_ n3_ n4_ n5_ n6_ hb hbox hg) | ((with_reducible refine gate_dst (N := 6) rfl ?_); refine box_event ?hg (N := 6) ?hd (cs := #[.slice none 0 0, .slice none 0 0, .slice none 0 0, .slice none 0 0, .int .i64 0]) (t := 28) ?hr ?_; (case hd => rfl); (case hg => rfl); (case hr => first | (go_simp; done) | (go_simp; rfl)); intro gb117 hg w6 hbox hb; have n0_ := Aside0.mk (blk_below (qB BK115.out) hb); have n1_ := Aside0.mk (blk_below (qB BK116.out) hb); have n2_ := Aside0.mk (below_step (qW HB.out) hb); have n3_ := Aside0.mk (hbox); have n4_ := Aside0.mk ((by rw [hg]; exact (below_size (qW HB.out)) : w.heap.size ≤ gb117)); have n5_ := Aside0.mk ((by rw [hg]; exact (below_size (qW HB.out)) : w.heap.size ≤ gb117)); have n6_ := Aside0.mk ((by rw [hg]; exact Nat.ne_of_lt (blk_lt (qB BK115.out)) : gb115 ≠ gb117)); have n7_ := Aside0.mk ((by rw [hg]; exact Nat.ne_of_gt (blk_lt (qB BK115.out)) : gb117 ≠ gb115)); have n8_ := Aside0.mk ((by rw [hg]; exact Nat.ne_of_lt (blk_lt (qB BK116.out)) : gb116 ≠ gb117)); have n9_ := Aside0.mk ((by rw [hg]; exact Nat.ne_of_gt (blk_lt (qB BK116.out)) : gb117 ≠ gb116)); clear BK115 BK116 HB; have BK115 := n0_; have BK116 := n1_; have HB := n2_; have BK117 := n3_; have GW117 := n4_; have GE117 := n5_; have NB115_117 := n6_; have NB117_115 := n7_; have NB116_117 := n8_; have NB117_116 := n9_; clear n0_ n1_ n2_ n3_ n4_ n5_ n6_ n7_ n8_ n9_ hb hbox hg; have hnb7 := NB115_116.out; have hnc7 := NB116_115.out; have hnb8 := NB115_117.out; have hnc8 := NB117_115.out; have hcz9_0 : w6.cell? ⟨gb115, 0, none⟩ = some (.slice A0_0 l0_0.length c0_0) := (blk_cell BK115.out 0).trans rfl; have hcz9_1 : w6.cell? ⟨gb115, 1, none⟩ = some (.slice A0_1 l0_1.length c0_1) := (blk_cell BK115.out 1).trans rfl; have hcz9_2 : w6.cell? ⟨gb115, 2, none⟩ = some (.int .i64 a0_2) := (blk_cell BK115.out 2).trans rfl; have hcz9_3 : w6.cell? ⟨gb115, 3, none⟩ = some (.int .i64 a0_3) := (blk_cell BK115.out 3).trans rfl; have hcz9_4 : w6.cell? ⟨gb115, 4, none⟩ = some (.int .i64 a0_4) := (blk_cell BK115.out 4).trans rfl; have hfz9_0 := blk_frozen BK115.out 0; have hfz9_1 := blk_frozen BK115.out 1; have hfz9_2 := blk_frozen BK115.out 2; have hfz9_3 := blk_frozen BK115.out 3; have hfz9_4 := blk_frozen BK115.out 4) | ((with_reducible refine gate_callee (f := 55) rfl ?_); refine goesL_ (some 15) rfl rfl Try.func55 (by kernel_rfl) rfl #[.agg #[.slice A0_0 l0_0.length c0_0, .slice A0_1 l0_1.length c0_1, .int .i64 a0_2, .int .i64 a0_3, .int .i64 a0_4]] rfl (by (try simp only [List.map_toArray, List.map_cons, List.map_nil]); first | done | rfl | (simp only [List.length_drop, List.length_take]; rfl)) ?_; (with_reducible refine (planner_sizes.calls _ _ l0_0 _ _ l0_1 a0_2 a0_3 a0_4 t118 _ ?side1 ?side2 ?side3 ?side4 A3.out).mono ?_); (case side1 => exact qC HR0_0.out HB.out); (case side2 => exact HC0_0.out); (case side3 => exact qC HR0_1.out HB.out); (case side4 => exact HC0_1.out); rintro e w10 ⟨v119, rfl, ho0, hb⟩; refine ⟨_, rfl, ?_⟩; have n0_ := Aside0.mk (Kd.R_lower ho0 (below_size (qW HB.out))); have n1_ := Aside0.mk (blk_below (qB BK115.out) hb); have n2_ := Aside0.mk (blk_below (qB BK116.out) hb); have n3_ := Aside0.mk (blk_below (qB BK117.out) hb); have n4_ := Aside0.mk (below_step (qW HB.out) hb); clear BK115 BK116 BK117 HB; have HO120 := n0_; have BK115 := n1_; have BK116 := n2_; have BK117 := n3_; have HB := n4_; clear n0_ n1_ n2_ n3_ n4_; (try clear hb); (try clear hb2); (try clear hk); (try clear hi); (try clear ho0); obtain ⟨Ao11, co11, eo11⟩ := Kd.R_slice HO120.out; subst eo11))
 go_loopg [7, 17] k (fun kq v7 v17 w' => ∃ (x7_1 : Int) (x17_1 : Int) (x117004_1 : Int) (x118000_1 : List Int) (x118001_1 : List Int) (x118002_1 : List Int) (x118003_1 : List Int) (u118000 : Value) (u118001 : Value) (u118002 : Value) (u118003 : Value), v7 = .int .i64 x7_1 ∧ v17 = .int .i64 x17_1 ∧ Aside0 (planner_plan.l0 sums last kq x7_1 t118 (t118.length : Int) x17_1 l0_0 l0_1 a0_2 a0_3 a0_4 x118000_1 x118001_1 x118002_1 x118003_1 0 = some (r1, r2, r3, r4, r5, r6)) ∧ Aside0 (kq ≤ k) ∧ Aside0 (Kd.R (Kd.int .i64) 3 w' w.heap.size (fun k_ => some k_ ≠ (u118000 : Value).ownBlock ∧ some k_ ≠ (u118001 : Value).ownBlock ∧ some k_ ≠ (u118002 : Value).ownBlock ∧ some k_ ≠ (u118003 : Value).ownBlock) (.slice Ao11 t118.length co11) t118) ∧ Aside0 (Kd.R (Kd.int .i64) 3 w' w.heap.size (fun k_ => some k_ ≠ ((.slice Ao11 t118.length co11) : Value).ownBlock ∧ some k_ ≠ (u118001 : Value).ownBlock ∧ some k_ ≠ (u118002 : Value).ownBlock ∧ some k_ ≠ (u118003 : Value).ownBlock) u118000 x118000_1) ∧ Aside0 (Kd.R (Kd.int .i64) 3 w' w.heap.size (fun k_ => some k_ ≠ ((.slice Ao11 t118.length co11) : Value).ownBlock ∧ some k_ ≠ (u118000 : Value).ownBlock ∧ some k_ ≠ (u118002 : Value).ownBlock ∧ some k_ ≠ (u118003 : Value).ownBlock) u118001 x118001_1) ∧ Aside0 (Kd.R (Kd.int .i64) 3 w' w.heap.size (fun k_ => some k_ ≠ ((.slice Ao11 t118.length co11) : Value).ownBlock ∧ some k_ ≠ (u118000 : Value).ownBlock ∧ some k_ ≠ (u118001 : Value).ownBlock ∧ some k_ ≠ (u118003 : Value).ownBlock) u118002 x118002_1) ∧ Aside0 (Kd.R (Kd.int .i64) 3 w' w.heap.size (fun k_ => some k_ ≠ ((.slice Ao11 t118.length co11) : Value).ownBlock ∧ some k_ ≠ (u118000 : Value).ownBlock ∧ some k_ ≠ (u118001 : Value).ownBlock ∧ some k_ ≠ (u118002 : Value).ownBlock) u118003 x118003_1) ∧ Aside0 (w'.heap[gb115]? = some (.cells #[(.slice A0_0 l0_0.length c0_0), (.slice A0_1 l0_1.length c0_1), .int .i64 a0_2, .int .i64 a0_3, .int .i64 a0_4] 24 (0, 0))) ∧ Aside0 (w'.heap[gb116]? = some (.cells #[(.slice none 0 0), (.slice none 0 0), (.slice none 0 0), (.slice none 0 0), .int .i64 x117004_1] 28 (0, 0))) ∧ Aside0 (w'.heap[gb117]? = some (.cells #[u118000, u118001, u118002, u118003, .int .i64 0] 28 (0, 0))) ∧ Aside0 (Below w.heap.size w w'))
 case atStart => exact ⟨(0), (0), (0), (([] : List Int)), (([] : List Int)), (([] : List Int)), (([] : List Int)), (.slice none 0 0), (.slice none 0 0), (.slice none 0 0), (.slice none 0 0), (by first | rfl | (simp; done) | (simp [*]; done)), (by first | rfl | (simp; done) | (simp [*]; done)), H', ⟨Nat.le_refl _⟩, ⟨by exact qR (Kd.R_mono HO120.out (fun _ hk => ⟨(by simp [Value.ownBlock]), ⟨(by simp [Value.ownBlock]), ⟨(by simp [Value.ownBlock]), (by simp [Value.ownBlock])⟩⟩⟩))⟩, ⟨by first | exact Kd.R_nil _ _ _ _ _ | exact Kd.N_nil _ _ _ _ _ | exact Kd.V_nil _ _ _ _ _ | exact Kd.Q_nil _ _ _ _ _ | exact Kd.S_nil _ _ _ _ _⟩, ⟨by first | exact Kd.R_nil _ _ _ _ _ | exact Kd.N_nil _ _ _ _ _ | exact Kd.V_nil _ _ _ _ _ | exact Kd.Q_nil _ _ _ _ _ | exact Kd.S_nil _ _ _ _ _⟩, ⟨by first | exact Kd.R_nil _ _ _ _ _ | exact Kd.N_nil _ _ _ _ _ | exact Kd.V_nil _ _ _ _ _ | exact Kd.Q_nil _ _ _ _ _ | exact Kd.S_nil _ _ _ _ _⟩, ⟨by first | exact Kd.R_nil _ _ _ _ _ | exact Kd.N_nil _ _ _ _ _ | exact Kd.V_nil _ _ _ _ _ | exact Kd.Q_nil _ _ _ _ _ | exact Kd.S_nil _ _ _ _ _⟩, ⟨by exact qB BK115.out⟩, ⟨by exact qB BK116.out⟩, ⟨by exact qB BK117.out⟩, ⟨by repeat (first | (with_reducible first | exact HB.out | apply below_alloc | apply pw_below_drewN | apply below_drew1 | refine below_set ?_ GE115.out | refine below_set ?_ GE116.out | refine below_set ?_ GE117.out) | exact HB.out)⟩⟩
 case round =>
  clear H'
  try clear p2
  try clear c3
  try clear c5
  try clear c7
  try clear c8
  try clear hcz9_0
  try clear hcz9_1
  try clear hcz9_2
  try clear hcz9_3
  try clear hcz9_4
  try clear hfz9_0
  try clear hfz9_1
  try clear hfz9_2
  try clear hfz9_3
  try clear hfz9_4
  obtain ⟨x7_1, x17_1, x117004_1, x118000_1, x118001_1, x118002_1, x118003_1, u118000, u118001, u118002, u118003, rfl, rfl, HA, HK1, HO_15, HO_118000, HO_118001, HO_118002, HO_118003, BK115, BK116, BK117, HB⟩ := hrel
  cases gk with
  | zero => exact absurd HA.out (by simp [planner_plan.l0])
  | succ k1 =>
   have H := HA.out
   clear HA
   simp only [planner_plan.l0] at H
   by_cases c12 : x17_1 < (t118.length : Int)
   case neg =>
    rw [if_neg c12] at H
    have c12b0 : decide (x17_1 < (t118.length : Int)) = false := decide_eq_false c12
    clear c12
    replace H := Option.bind_eq_some_iff.mp H
    obtain ⟨t148, A650, H⟩ := H
    replace H : (some (x118000_1, x118001_1, x118002_1, x118003_1, t148, 0)) = some (r1, r2, r3, r4, r5, r6) := H
    have A65 := Aside0.mk A650
    clear A650
    simp only [Option.some.injEq, Prod.mk.injEq] at H
    obtain ⟨rfl, rfl, rfl, rfl, rfl, rfl⟩ := H
    have hnb66 := NB117_115.out
    have hnc66 := NB115_117.out
    have hnb67 := NB117_116.out
    have hnc67 := NB116_117.out
    have hcz68_0 : wr.cell? ⟨gb117, 0, none⟩ = some (u118000) := (blk_cell BK117.out 0).trans rfl
    have hcz68_1 : wr.cell? ⟨gb117, 1, none⟩ = some (u118001) := (blk_cell BK117.out 1).trans rfl
    have hcz68_2 : wr.cell? ⟨gb117, 2, none⟩ = some (u118002) := (blk_cell BK117.out 2).trans rfl
    have hcz68_3 : wr.cell? ⟨gb117, 3, none⟩ = some (u118003) := (blk_cell BK117.out 3).trans rfl
    have hcz68_4 : wr.cell? ⟨gb117, 4, none⟩ = some (.int .i64 0) := (blk_cell BK117.out 4).trans rfl
    have hfz68_0 := blk_frozen BK117.out 0
    have hfz68_1 := blk_frozen BK117.out 1
    have hfz68_2 := blk_frozen BK117.out 2
    have hfz68_3 := blk_frozen BK117.out 3
    have hfz68_4 := blk_frozen BK117.out 4
    obtain ⟨Ao69, co69, eo69⟩ := Kd.R_slice HO_118000.out
    subst eo69
    obtain ⟨Ao70, co70, eo70⟩ := Kd.R_slice HO_118001.out
    subst eo70
    obtain ⟨Ao71, co71, eo71⟩ := Kd.R_slice HO_118002.out
    subst eo71
    obtain ⟨Ao72, co72, eo72⟩ := Kd.R_slice HO_118003.out
    subst eo72
    go_wp2_with (first | ((with_reducible refine gate_callee (f := 56) rfl ?_); refine goesL_ (some 73) rfl rfl Try.func56 (by kernel_rfl) rfl #[.agg #[.slice Ao69 x118000_1.length co69, .slice Ao70 x118001_1.length co70, .slice Ao71 x118002_1.length co71, .slice Ao72 x118003_1.length co72, .int .i64 0]] rfl (by (try simp only [List.map_toArray, List.map_cons, List.map_nil]); first | done | rfl | (simp only [List.length_drop, List.length_take]; rfl)) ?_; (with_reducible refine (planner_bound.calls k1 _ _ x118000_1 _ _ x118001_1 _ _ x118002_1 _ _ x118003_1 0 t148 _ ?side1 ?side2 ?side3 ?side4 ?side5 ?side6 ?side7 ?side8 A65.out).mono ?_); (case side1 => repeat (first | exact (Kd.R_reads' HO_118000.out).2.2 | (with_reducible refine Kd.C_alloc ?_ _) | (with_reducible refine Kd.C_drewN ?_ _) | (with_reducible refine Kd.C_drew ?_))); (case side2 => exact (Kd.R_reads' HO_118000.out).2.1); (case side3 => repeat (first | exact (Kd.R_reads' HO_118001.out).2.2 | (with_reducible refine Kd.C_alloc ?_ _) | (with_reducible refine Kd.C_drewN ?_ _) | (with_reducible refine Kd.C_drew ?_))); (case side4 => exact (Kd.R_reads' HO_118001.out).2.1); (case side5 => repeat (first | exact (Kd.R_reads' HO_118002.out).2.2 | (with_reducible refine Kd.C_alloc ?_ _) | (with_reducible refine Kd.C_drewN ?_ _) | (with_reducible refine Kd.C_drew ?_))); (case side6 => exact (Kd.R_reads' HO_118002.out).2.1); (case side7 => repeat (first | exact (Kd.R_reads' HO_118003.out).2.2 | (with_reducible refine Kd.C_alloc ?_ _) | (with_reducible refine Kd.C_drewN ?_ _) | (with_reducible refine Kd.C_drew ?_))); (case side8 => exact (Kd.R_reads' HO_118003.out).2.1); rintro e w73 ⟨rfl, hb⟩; refine ⟨_, rfl, ?_⟩; have n0_ := Aside0.mk (Kd.R_below (qR HO_15.out) hb); have n1_ := Aside0.mk (Kd.R_below (qR HO_118000.out) hb); have n2_ := Aside0.mk (Kd.R_below (qR HO_118001.out) hb); have n3_ := Aside0.mk (Kd.R_below (qR HO_118002.out) hb); have n4_ := Aside0.mk (Kd.R_below (qR HO_118003.out) hb); have n5_ := Aside0.mk (blk_below (qB BK115.out) hb); have n6_ := Aside0.mk (blk_below (qB BK116.out) hb); have n7_ := Aside0.mk (blk_below (qB BK117.out) hb); have n8_ := Aside0.mk (below_step (qW HB.out) hb); clear HO_15 HO_118000 HO_118001 HO_118002 HO_118003 BK115 BK116 BK117 HB; have HO_15 := n0_; have HO_118000 := n1_; have HO_118001 := n2_; have HO_118002 := n3_; have HO_118003 := n4_; have BK115 := n5_; have BK116 := n6_; have BK117 := n7_; have HB := n8_; clear n0_ n1_ n2_ n3_ n4_ n5_ n6_ n7_ n8_; (try clear hb); (try clear hb2); (try clear hk); (try clear hi); have hcz74_0 : w73.cell? ⟨gb117, 0, none⟩ = some (.slice Ao69 x118000_1.length co69) := (blk_cell BK117.out 0).trans rfl; have hcz74_1 : w73.cell? ⟨gb117, 1, none⟩ = some (.slice Ao70 x118001_1.length co70) := (blk_cell BK117.out 1).trans rfl; have hcz74_2 : w73.cell? ⟨gb117, 2, none⟩ = some (.slice Ao71 x118002_1.length co71) := (blk_cell BK117.out 2).trans rfl; have hcz74_3 : w73.cell? ⟨gb117, 3, none⟩ = some (.slice Ao72 x118003_1.length co72) := (blk_cell BK117.out 3).trans rfl; have hcz74_4 : w73.cell? ⟨gb117, 4, none⟩ = some (.int .i64 0) := (blk_cell BK117.out 4).trans rfl; have hfz74_0 := blk_frozen BK117.out 0; have hfz74_1 := blk_frozen BK117.out 1; have hfz74_2 := blk_frozen BK117.out 2; have hfz74_3 := blk_frozen BK117.out 3; have hfz74_4 := blk_frozen BK117.out 4; have hnb75 := NB116_115.out; have hnc75 := NB115_116.out; have hcz76_0 : w73.cell? ⟨gb116, 0, none⟩ = some (.slice none 0 0) := (blk_cell BK116.out 0).trans rfl; have hcz76_1 : w73.cell? ⟨gb116, 1, none⟩ = some (.slice none 0 0) := (blk_cell BK116.out 1).trans rfl; have hcz76_2 : w73.cell? ⟨gb116, 2, none⟩ = some (.slice none 0 0) := (blk_cell BK116.out 2).trans rfl; have hcz76_3 : w73.cell? ⟨gb116, 3, none⟩ = some (.slice none 0 0) := (blk_cell BK116.out 3).trans rfl; have hcz76_4 : w73.cell? ⟨gb116, 4, none⟩ = some (.int .i64 x117004_1) := (blk_cell BK116.out 4).trans rfl; have hfz76_0 := blk_frozen BK116.out 0; have hfz76_1 := blk_frozen BK116.out 1; have hfz76_2 := blk_frozen BK116.out 2; have hfz76_3 := blk_frozen BK116.out 3; have hfz76_4 := blk_frozen BK116.out 4))
    refine bodyPost_ret (results_ct rfl _ _ gb116 28 #[.slice Ao69 x118000_1.length co69, .slice Ao70 x118001_1.length co70, .slice Ao71 x118002_1.length co71, .slice Ao72 x118003_1.length co72, .int .i64 t148] (0, 0) _ rfl (by (with_reducible repeat (first | refine blk_drewN ?_ _ | refine blk_drew ?_ | refine blk_alloc ?_ _)); refine blk_put (cs := #[.slice Ao69 x118000_1.length co69, .slice Ao70 x118001_1.length co70, .slice Ao71 x118002_1.length co71, .slice Ao72 x118003_1.length co72, .int .i64 x117004_1]) ?_ 4 _ rfl; (with_reducible repeat (first | refine blk_drewN ?_ _ | refine blk_drew ?_ | refine blk_alloc ?_ _)); refine blk_put (cs := #[.slice Ao69 x118000_1.length co69, .slice Ao70 x118001_1.length co70, .slice Ao71 x118002_1.length co71, .slice none 0 0, .int .i64 x117004_1]) ?_ 3 _ rfl; (with_reducible repeat (first | refine blk_drewN ?_ _ | refine blk_drew ?_ | refine blk_alloc ?_ _)); refine blk_put (cs := #[.slice Ao69 x118000_1.length co69, .slice Ao70 x118001_1.length co70, .slice none 0 0, .slice none 0 0, .int .i64 x117004_1]) ?_ 2 _ rfl; (with_reducible repeat (first | refine blk_drewN ?_ _ | refine blk_drew ?_ | refine blk_alloc ?_ _)); refine blk_put (cs := #[.slice Ao69 x118000_1.length co69, .slice none 0 0, .slice none 0 0, .slice none 0 0, .int .i64 x117004_1]) ?_ 1 _ rfl; (with_reducible repeat (first | refine blk_drewN ?_ _ | refine blk_drew ?_ | refine blk_alloc ?_ _)); refine blk_put (cs := #[.slice none 0 0, .slice none 0 0, .slice none 0 0, .slice none 0 0, .int .i64 x117004_1]) ?_ 0 _ rfl; (with_reducible repeat (first | refine blk_drewN ?_ _ | refine blk_drew ?_ | refine blk_alloc ?_ _)); refine blk_far ?_ NB116_117.out _; exact qB BK116.out) Try.underlying28 rfl (by kernel_rfl)) rfl ?_
    exact ⟨_, _, _, _, by first | rfl | (simp [errW_none, errW_some] <;> rfl) | (simp [*, errW_none, errW_some] <;> rfl), by exact qR (Kd.R_mono (Kd.R_far (p := ⟨gb116, 4, none⟩) (Kd.R_far (p := ⟨gb116, 3, none⟩) (Kd.R_far (p := ⟨gb116, 2, none⟩) (Kd.R_far (p := ⟨gb116, 1, none⟩) (Kd.R_far (p := ⟨gb116, 0, none⟩) (Kd.R_far (p := ⟨gb117, 4, none⟩) (Kd.R_types (Kd.R_types HO_118000.out BK117.out (by decide)) BK116.out (by decide)) (fun _ hk => hk.1.2) (.int .i64 t148)) (fun _ hk => hk.2) (.slice Ao69 x118000_1.length co69)) (fun _ hk => hk.2) (.slice Ao70 x118001_1.length co70)) (fun _ hk => hk.2) (.slice Ao71 x118002_1.length co71)) (fun _ hk => hk.2) (.slice Ao72 x118003_1.length co72)) (fun _ hk => hk.2) (.int .i64 t148)) (fun _ hk => ⟨hk.1.1.2.1, ⟨hk.1.1.2.2.1, hk.1.1.2.2.2⟩⟩)), by exact qR (Kd.R_mono (Kd.R_far (p := ⟨gb116, 4, none⟩) (Kd.R_far (p := ⟨gb116, 3, none⟩) (Kd.R_far (p := ⟨gb116, 2, none⟩) (Kd.R_far (p := ⟨gb116, 1, none⟩) (Kd.R_far (p := ⟨gb116, 0, none⟩) (Kd.R_far (p := ⟨gb117, 4, none⟩) (Kd.R_types (Kd.R_types HO_118001.out BK117.out (by decide)) BK116.out (by decide)) (fun _ hk => hk.1.2) (.int .i64 t148)) (fun _ hk => hk.2) (.slice Ao69 x118000_1.length co69)) (fun _ hk => hk.2) (.slice Ao70 x118001_1.length co70)) (fun _ hk => hk.2) (.slice Ao71 x118002_1.length co71)) (fun _ hk => hk.2) (.slice Ao72 x118003_1.length co72)) (fun _ hk => hk.2) (.int .i64 t148)) (fun _ hk => ⟨hk.1.1.2.1, ⟨hk.1.1.2.2.1, hk.1.1.2.2.2⟩⟩)), by exact qR (Kd.R_mono (Kd.R_far (p := ⟨gb116, 4, none⟩) (Kd.R_far (p := ⟨gb116, 3, none⟩) (Kd.R_far (p := ⟨gb116, 2, none⟩) (Kd.R_far (p := ⟨gb116, 1, none⟩) (Kd.R_far (p := ⟨gb116, 0, none⟩) (Kd.R_far (p := ⟨gb117, 4, none⟩) (Kd.R_types (Kd.R_types HO_118002.out BK117.out (by decide)) BK116.out (by decide)) (fun _ hk => hk.1.2) (.int .i64 t148)) (fun _ hk => hk.2) (.slice Ao69 x118000_1.length co69)) (fun _ hk => hk.2) (.slice Ao70 x118001_1.length co70)) (fun _ hk => hk.2) (.slice Ao71 x118002_1.length co71)) (fun _ hk => hk.2) (.slice Ao72 x118003_1.length co72)) (fun _ hk => hk.2) (.int .i64 t148)) (fun _ hk => ⟨hk.1.1.2.1, ⟨hk.1.1.2.2.1, hk.1.1.2.2.2⟩⟩)), by exact qR (Kd.R_mono (Kd.R_far (p := ⟨gb116, 4, none⟩) (Kd.R_far (p := ⟨gb116, 3, none⟩) (Kd.R_far (p := ⟨gb116, 2, none⟩) (Kd.R_far (p := ⟨gb116, 1, none⟩) (Kd.R_far (p := ⟨gb116, 0, none⟩) (Kd.R_far (p := ⟨gb117, 4, none⟩) (Kd.R_types (Kd.R_types HO_118003.out BK117.out (by decide)) BK116.out (by decide)) (fun _ hk => hk.1.2) (.int .i64 t148)) (fun _ hk => hk.2) (.slice Ao69 x118000_1.length co69)) (fun _ hk => hk.2) (.slice Ao70 x118001_1.length co70)) (fun _ hk => hk.2) (.slice Ao71 x118002_1.length co71)) (fun _ hk => hk.2) (.slice Ao72 x118003_1.length co72)) (fun _ hk => hk.2) (.int .i64 t148)) (fun _ hk => ⟨hk.1.1.2.1, ⟨hk.1.1.2.2.1, hk.1.1.2.2.2⟩⟩)), by repeat (first | (with_reducible first | exact HB.out | apply below_alloc | apply pw_below_drewN | apply below_drew1 | refine below_set ?_ GE115.out | refine below_set ?_ GE116.out | refine below_set ?_ GE117.out) | exact HB.out)⟩

   rw [if_pos c12] at H
   have c12b0 : decide (x17_1 < (t118.length : Int)) = true := decide_eq_true c12
   clear c12
   by_cases c13 : 0 ≤ x17_1
   case neg =>
    rw [if_neg c13] at H
    exact absurd H (by simp)
   rw [if_pos c13] at H
   have c13b0 : decide (0 ≤ x17_1) = true := decide_eq_true c13
   clear c13
   by_cases c14 : x17_1 < (t118.length : Int)
   case neg =>
    rw [if_neg c14] at H
    exact absurd H (by simp)
   rw [if_pos c14] at H
   have c14b0 : decide (x17_1 < (t118.length : Int)) = true := decide_eq_true c14
   clear c14
   obtain ⟨ji15, hji15⟩ : ∃ j_ : Int, (mx (wrap64 ((wrap64 (x17_1 + 1)) * a0_2)) x7_1) = j_ := ⟨_, rfl⟩
   replace H : ((endF sums last (ji15) (rd t118 x17_1)).bind fun bt122 => (if bt122.2 = true then ((some (([wrap64 ((wrap64 (x17_1 + 1)) * a0_2)] : List Int) : List Int)).bind fun y124 => (if x118000_1.length + y124.length < 17592186044416 then ((some (([ji15] : List Int) : List Int)).bind fun y130 => (if x118001_1.length + y130.length < 17592186044416 then (planner_plan.j1 sums last k1 bt122.1 bt122.1 t118 (t118.length : Int) x17_1 l0_0 l0_1 a0_2 a0_3 a0_4 (x118000_1 ++ y124) (x118001_1 ++ y130) x118002_1 x118003_1 0) else (none))) else (none))) else (some (([] : List Int), ([] : List Int), ([] : List Int), ([] : List Int), 0, 21)))) = some (r1, r2, r3, r4, r5, r6) := by first | (rw [hji15] at H; exact H) | (simp only [hji15] at H ⊢; exact H)
   have hji15_ : (if (wrap64 ((wrap64 (x17_1 + 1)) * a0_2)) < x7_1 then x7_1 else (wrap64 ((wrap64 (x17_1 + 1)) * a0_2))) = ji15 := hji15
   replace H := Option.bind_eq_some_iff.mp H
   obtain ⟨⟨t122, t123⟩, A160, H⟩ := H
   replace H : (if t123 = true then ((some (([wrap64 ((wrap64 (x17_1 + 1)) * a0_2)] : List Int) : List Int)).bind fun y124 => (if x118000_1.length + y124.length < 17592186044416 then ((some (([ji15] : List Int) : List Int)).bind fun y130 => (if x118001_1.length + y130.length < 17592186044416 then (planner_plan.j1 sums last k1 t122 t122 t118 (t118.length : Int) x17_1 l0_0 l0_1 a0_2 a0_3 a0_4 (x118000_1 ++ y124) (x118001_1 ++ y130) x118002_1 x118003_1 0) else (none))) else (none))) else (some (([] : List Int), ([] : List Int), ([] : List Int), ([] : List Int), 0, 21))) = some (r1, r2, r3, r4, r5, r6) := H
   have A16 := Aside0.mk A160
   clear A160
   by_cases c17 : t123 = true
   case neg =>
    replace c17 := Bool.eq_false_iff.mpr c17
    subst c17
    have H1 : (some (([] : List Int), ([] : List Int), ([] : List Int), ([] : List Int), 0, 21)) = some (r1, r2, r3, r4, r5, r6) := by rw [if_neg (show ¬ (false = true) by decide)] at H; exact H
    clear H
    have H := H1
    clear H1
    simp only [Option.some.injEq, Prod.mk.injEq] at H
    obtain ⟨rfl, rfl, rfl, rfl, rfl, rfl⟩ := H
    have p121 : 0 ≤ (x17_1 : Int) := of_decide_eq_true (by first | (with_reducible assumption) | assumption)
    have q121 : x17_1 < (t118.length : Int) := of_decide_eq_true (by first | (with_reducible assumption) | assumption)
    obtain ⟨ad121, e121, hx121_0⟩ := Kd.at_int (Kd.R_reads' HO_15.out).2.2 x17_1 p121 q121
    cases e121
    replace p121 := eq_true p121
    replace q121 := eq_true q121
    have hnb59 := NB115_116.out
    have hnc59 := NB116_115.out
    have hnb60 := NB115_117.out
    have hnc60 := NB117_115.out
    have hcz61_0 : wr.cell? ⟨gb115, 0, none⟩ = some (.slice A0_0 l0_0.length c0_0) := (blk_cell BK115.out 0).trans rfl
    have hcz61_1 : wr.cell? ⟨gb115, 1, none⟩ = some (.slice A0_1 l0_1.length c0_1) := (blk_cell BK115.out 1).trans rfl
    have hcz61_2 : wr.cell? ⟨gb115, 2, none⟩ = some (.int .i64 a0_2) := (blk_cell BK115.out 2).trans rfl
    have hcz61_3 : wr.cell? ⟨gb115, 3, none⟩ = some (.int .i64 a0_3) := (blk_cell BK115.out 3).trans rfl
    have hcz61_4 : wr.cell? ⟨gb115, 4, none⟩ = some (.int .i64 a0_4) := (blk_cell BK115.out 4).trans rfl
    have hfz61_0 := blk_frozen BK115.out 0
    have hfz61_1 := blk_frozen BK115.out 1
    have hfz61_2 := blk_frozen BK115.out 2
    have hfz61_3 := blk_frozen BK115.out 3
    have hfz61_4 := blk_frozen BK115.out 4
    go_wp2_with (first | ((with_reducible refine gate_dst (N := 34) rfl ?_); refine goesM2_ (some 34) rfl rfl Try.func37 (by kernel_rfl) rfl (.pointer (some ⟨a1, 0, none⟩)) (.int .i64 ji15) (.int .i64 (rd t118 x17_1)) rfl rfl (by (try simp only [List.map_toArray, List.map_cons, List.map_nil]); first | done | (simp only [hji15]; rfl) | rfl | (simp only [List.length_drop, List.length_take]; rfl)) ?_; (with_reducible refine (end_calls a1 sums last ji15 (rd t118 x17_1) t122 false _ (HCAR.out _ (qW HB.out)) HSM.out HUP.out A16.out).mono ?_); rintro e w62 ⟨rfl, hb⟩; refine ⟨_, rfl, ?_⟩; have n0_ := Aside0.mk (Kd.R_below (qR HO_15.out) hb); have n1_ := Aside0.mk (Kd.R_below (qR HO_118000.out) hb); have n2_ := Aside0.mk (Kd.R_below (qR HO_118001.out) hb); have n3_ := Aside0.mk (Kd.R_below (qR HO_118002.out) hb); have n4_ := Aside0.mk (Kd.R_below (qR HO_118003.out) hb); have n5_ := Aside0.mk (blk_below (qB BK115.out) hb); have n6_ := Aside0.mk (blk_below (qB BK116.out) hb); have n7_ := Aside0.mk (blk_below (qB BK117.out) hb); have n8_ := Aside0.mk (below_step (qW HB.out) hb); clear HO_15 HO_118000 HO_118001 HO_118002 HO_118003 BK115 BK116 BK117 HB; have HO_15 := n0_; have HO_118000 := n1_; have HO_118001 := n2_; have HO_118002 := n3_; have HO_118003 := n4_; have BK115 := n5_; have BK116 := n6_; have BK117 := n7_; have HB := n8_; clear n0_ n1_ n2_ n3_ n4_ n5_ n6_ n7_ n8_; (try clear hb); (try clear hb2); (try clear hk); (try clear hi); have hnb63 := NB116_117.out; have hnc63 := NB117_116.out; have hcz64_0 : w62.cell? ⟨gb116, 0, none⟩ = some (.slice none 0 0) := (blk_cell BK116.out 0).trans rfl; have hcz64_1 : w62.cell? ⟨gb116, 1, none⟩ = some (.slice none 0 0) := (blk_cell BK116.out 1).trans rfl; have hcz64_2 : w62.cell? ⟨gb116, 2, none⟩ = some (.slice none 0 0) := (blk_cell BK116.out 2).trans rfl; have hcz64_3 : w62.cell? ⟨gb116, 3, none⟩ = some (.slice none 0 0) := (blk_cell BK116.out 3).trans rfl; have hcz64_4 : w62.cell? ⟨gb116, 4, none⟩ = some (.int .i64 x117004_1) := (blk_cell BK116.out 4).trans rfl; have hfz64_0 := blk_frozen BK116.out 0; have hfz64_1 := blk_frozen BK116.out 1; have hfz64_2 := blk_frozen BK116.out 2; have hfz64_3 := blk_frozen BK116.out 3; have hfz64_4 := blk_frozen BK116.out 4))
    refine bodyPost_ret (results_ct rfl _ _ gb116 28 #[.slice none 0 0, .slice none 0 0, .slice none 0 0, .slice none 0 0, .int .i64 0] (0, 0) _ rfl (by (with_reducible repeat (first | refine blk_drewN ?_ _ | refine blk_drew ?_ | refine blk_alloc ?_ _)); refine blk_put (cs := #[.slice none 0 0, .slice none 0 0, .slice none 0 0, .slice none 0 0, .int .i64 x117004_1]) ?_ 4 _ rfl; (with_reducible repeat (first | refine blk_drewN ?_ _ | refine blk_drew ?_ | refine blk_alloc ?_ _)); refine blk_put (cs := #[.slice none 0 0, .slice none 0 0, .slice none 0 0, .slice none 0 0, .int .i64 x117004_1]) ?_ 3 _ rfl; (with_reducible repeat (first | refine blk_drewN ?_ _ | refine blk_drew ?_ | refine blk_alloc ?_ _)); refine blk_put (cs := #[.slice none 0 0, .slice none 0 0, .slice none 0 0, .slice none 0 0, .int .i64 x117004_1]) ?_ 2 _ rfl; (with_reducible repeat (first | refine blk_drewN ?_ _ | refine blk_drew ?_ | refine blk_alloc ?_ _)); refine blk_put (cs := #[.slice none 0 0, .slice none 0 0, .slice none 0 0, .slice none 0 0, .int .i64 x117004_1]) ?_ 1 _ rfl; (with_reducible repeat (first | refine blk_drewN ?_ _ | refine blk_drew ?_ | refine blk_alloc ?_ _)); refine blk_put (cs := #[.slice none 0 0, .slice none 0 0, .slice none 0 0, .slice none 0 0, .int .i64 x117004_1]) ?_ 0 _ rfl; exact qB BK116.out) Try.underlying28 rfl (by kernel_rfl)) rfl ?_
    exact ⟨_, _, _, _, by first | rfl | (simp [errW_none, errW_some] <;> rfl) | (simp only [← hji15]; first | rfl | (simp [errW_none, errW_some] <;> rfl)) | (simp [*, errW_none, errW_some] <;> rfl), by first | exact Kd.R_nil _ _ _ _ _ | exact Kd.N_nil _ _ _ _ _ | exact Kd.V_nil _ _ _ _ _ | exact Kd.Q_nil _ _ _ _ _ | exact Kd.S_nil _ _ _ _ _, by first | exact Kd.R_nil _ _ _ _ _ | exact Kd.N_nil _ _ _ _ _ | exact Kd.V_nil _ _ _ _ _ | exact Kd.Q_nil _ _ _ _ _ | exact Kd.S_nil _ _ _ _ _, by first | exact Kd.R_nil _ _ _ _ _ | exact Kd.N_nil _ _ _ _ _ | exact Kd.V_nil _ _ _ _ _ | exact Kd.Q_nil _ _ _ _ _ | exact Kd.S_nil _ _ _ _ _, by first | exact Kd.R_nil _ _ _ _ _ | exact Kd.N_nil _ _ _ _ _ | exact Kd.V_nil _ _ _ _ _ | exact Kd.Q_nil _ _ _ _ _ | exact Kd.S_nil _ _ _ _ _, by repeat (first | (with_reducible first | exact HB.out | apply below_alloc | apply pw_below_drewN | apply below_drew1 | refine below_set ?_ GE115.out | refine below_set ?_ GE116.out | refine below_set ?_ GE117.out) | exact HB.out)⟩
   subst c17
   have H1 : ((some (([wrap64 ((wrap64 (x17_1 + 1)) * a0_2)] : List Int) : List Int)).bind fun y124 => (if x118000_1.length + y124.length < 17592186044416 then ((some (([ji15] : List Int) : List Int)).bind fun y130 => (if x118001_1.length + y130.length < 17592186044416 then (planner_plan.j1 sums last k1 t122 t122 t118 (t118.length : Int) x17_1 l0_0 l0_1 a0_2 a0_3 a0_4 (x118000_1 ++ y124) (x118001_1 ++ y130) x118002_1 x118003_1 0) else (none))) else (none))) = some (r1, r2, r3, r4, r5, r6) := by rw [if_pos rfl] at H; exact H
   clear H
   have H := H1
   clear H1
   have HC18 := Aside0.mk H
   clear H
   have p121 : 0 ≤ (x17_1 : Int) := of_decide_eq_true (by first | (with_reducible assumption) | assumption)
   have q121 : x17_1 < (t118.length : Int) := of_decide_eq_true (by first | (with_reducible assumption) | assumption)
   obtain ⟨ad121, e121, hx121_0⟩ := Kd.at_int (Kd.R_reads' HO_15.out).2.2 x17_1 p121 q121
   cases e121
   replace p121 := eq_true p121
   replace q121 := eq_true q121
   have hnb19 := NB115_116.out
   have hnc19 := NB116_115.out
   have hnb20 := NB115_117.out
   have hnc20 := NB117_115.out
   have hcz21_0 : wr.cell? ⟨gb115, 0, none⟩ = some (.slice A0_0 l0_0.length c0_0) := (blk_cell BK115.out 0).trans rfl
   have hcz21_1 : wr.cell? ⟨gb115, 1, none⟩ = some (.slice A0_1 l0_1.length c0_1) := (blk_cell BK115.out 1).trans rfl
   have hcz21_2 : wr.cell? ⟨gb115, 2, none⟩ = some (.int .i64 a0_2) := (blk_cell BK115.out 2).trans rfl
   have hcz21_3 : wr.cell? ⟨gb115, 3, none⟩ = some (.int .i64 a0_3) := (blk_cell BK115.out 3).trans rfl
   have hcz21_4 : wr.cell? ⟨gb115, 4, none⟩ = some (.int .i64 a0_4) := (blk_cell BK115.out 4).trans rfl
   have hfz21_0 := blk_frozen BK115.out 0
   have hfz21_1 := blk_frozen BK115.out 1
   have hfz21_2 := blk_frozen BK115.out 2
   have hfz21_3 := blk_frozen BK115.out 3
   have hfz21_4 := blk_frozen BK115.out 4
   go_upto_region 12 with (first | ((with_reducible refine gate_dst (N := 34) rfl ?_); refine goesM2_ (some 34) rfl rfl Try.func37 (by kernel_rfl) rfl (.pointer (some ⟨a1, 0, none⟩)) (.int .i64 ji15) (.int .i64 (rd t118 x17_1)) rfl rfl (by (try simp only [List.map_toArray, List.map_cons, List.map_nil]); first | done | (simp only [hji15]; rfl) | rfl | (simp only [List.length_drop, List.length_take]; rfl)) ?_; (with_reducible refine (end_calls a1 sums last ji15 (rd t118 x17_1) t122 true _ (HCAR.out _ (qW HB.out)) HSM.out HUP.out A16.out).mono ?_); rintro e w22 ⟨rfl, hb⟩; refine ⟨_, rfl, ?_⟩; have n0_ := Aside0.mk (Kd.R_below (qR HO_15.out) hb); have n1_ := Aside0.mk (Kd.R_below (qR HO_118000.out) hb); have n2_ := Aside0.mk (Kd.R_below (qR HO_118001.out) hb); have n3_ := Aside0.mk (Kd.R_below (qR HO_118002.out) hb); have n4_ := Aside0.mk (Kd.R_below (qR HO_118003.out) hb); have n5_ := Aside0.mk (blk_below (qB BK115.out) hb); have n6_ := Aside0.mk (blk_below (qB BK116.out) hb); have n7_ := Aside0.mk (blk_below (qB BK117.out) hb); have n8_ := Aside0.mk (below_step (qW HB.out) hb); clear HO_15 HO_118000 HO_118001 HO_118002 HO_118003 BK115 BK116 BK117 HB; have HO_15 := n0_; have HO_118000 := n1_; have HO_118001 := n2_; have HO_118002 := n3_; have HO_118003 := n4_; have BK115 := n5_; have BK116 := n6_; have BK117 := n7_; have HB := n8_; clear n0_ n1_ n2_ n3_ n4_ n5_ n6_ n7_ n8_; (try clear hb); (try clear hb2); (try clear hk); (try clear hi)))
   (try simp only [Act.put, List.setIfInBounds_toArray, List.set_cons_zero, List.set_cons_succ])
   go_cut [] (fun wc => ∃ (kq : Nat) (x118000_17 : List Int) (x118001_17 : List Int) (u118000 : Value) (u118001 : Value), Aside0 (planner_plan.j1 sums last kq t122 t122 t118 (t118.length : Int) x17_1 l0_0 l0_1 a0_2 a0_3 a0_4 x118000_17 x118001_17 x118002_1 x118003_1 0 = some (r1, r2, r3, r4, r5, r6)) ∧ Aside0 (kq ≤ k1) ∧ Aside0 (Kd.R (Kd.int .i64) 3 wc w.heap.size (fun k_ => some k_ ≠ (u118000 : Value).ownBlock ∧ some k_ ≠ (u118001 : Value).ownBlock ∧ some k_ ≠ (u118002 : Value).ownBlock ∧ some k_ ≠ (u118003 : Value).ownBlock) (.slice (some ad121) t118.length co11) t118) ∧ Aside0 (Kd.R (Kd.int .i64) 3 wc w.heap.size (fun k_ => some k_ ≠ ((.slice (some ad121) t118.length co11) : Value).ownBlock ∧ some k_ ≠ (u118001 : Value).ownBlock ∧ some k_ ≠ (u118002 : Value).ownBlock ∧ some k_ ≠ (u118003 : Value).ownBlock) u118000 x118000_17) ∧ Aside0 (Kd.R (Kd.int .i64) 3 wc w.heap.size (fun k_ => some k_ ≠ ((.slice (some ad121) t118.length co11) : Value).ownBlock ∧ some k_ ≠ (u118000 : Value).ownBlock ∧ some k_ ≠ (u118002 : Value).ownBlock ∧ some k_ ≠ (u118003 : Value).ownBlock) u118001 x118001_17) ∧ Aside0 (Kd.R (Kd.int .i64) 3 wc w.heap.size (fun k_ => some k_ ≠ ((.slice (some ad121) t118.length co11) : Value).ownBlock ∧ some k_ ≠ (u118000 : Value).ownBlock ∧ some k_ ≠ (u118001 : Value).ownBlock ∧ some k_ ≠ (u118003 : Value).ownBlock) u118002 x118002_1) ∧ Aside0 (Kd.R (Kd.int .i64) 3 wc w.heap.size (fun k_ => some k_ ≠ ((.slice (some ad121) t118.length co11) : Value).ownBlock ∧ some k_ ≠ (u118000 : Value).ownBlock ∧ some k_ ≠ (u118001 : Value).ownBlock ∧ some k_ ≠ (u118002 : Value).ownBlock) u118003 x118003_1) ∧ Aside0 (wc.heap[gb115]? = some (.cells #[(.slice A0_0 l0_0.length c0_0), (.slice A0_1 l0_1.length c0_1), .int .i64 a0_2, .int .i64 a0_3, .int .i64 a0_4] 24 (0, 0))) ∧ Aside0 (wc.heap[gb116]? = some (.cells #[(.slice none 0 0), (.slice none 0 0), (.slice none 0 0), (.slice none 0 0), .int .i64 x117004_1] 28 (0, 0))) ∧ Aside0 (wc.heap[gb117]? = some (.cells #[u118000, u118001, u118002, u118003, .int .i64 0] 28 (0, 0))) ∧ Aside0 (Below w.heap.size w wc))
   case first =>
    have H := HC18.out
    clear HC18
    obtain ⟨y124, hy124⟩ : ∃ y_ : List Int, y_ = (([wrap64 ((wrap64 (x17_1 + 1)) * a0_2)] : List Int)) := ⟨_, rfl⟩
    replace H : (if x118000_1.length + y124.length < 17592186044416 then ((some (([ji15] : List Int) : List Int)).bind fun y130 => (if x118001_1.length + y130.length < 17592186044416 then (planner_plan.j1 sums last k1 t122 t122 t118 (t118.length : Int) x17_1 l0_0 l0_1 a0_2 a0_3 a0_4 (x118000_1 ++ y124) (x118001_1 ++ y130) x118002_1 x118003_1 0) else (none))) else (none)) = some (r1, r2, r3, r4, r5, r6) := by first | (rw [hy124]; with_reducible exact H) | (have H2_ := (Option.bind_some _ _).symm.trans H; rw [hy124]; with_reducible exact H2_) | (have H2_ := (Option.bind_some _ _).symm.trans H; with_reducible exact H2_) | with_reducible exact H | (rw [hy124]; exact H) | exact H
    have Ny124 := Aside0.mk hy124
    clear hy124
    by_cases c23 : x118000_1.length + y124.length < 17592186044416
    case neg =>
     rw [if_neg c23] at H
     exact absurd H (by simp)
    rw [if_pos c23] at H
    have LMc23 := Aside0.mk c23
    clear c23
    obtain ⟨y127, hy127⟩ : ∃ y_ : List Int, y_ = (x118000_1 ++ y124) := ⟨_, rfl⟩
    replace H : ((some (([ji15] : List Int) : List Int)).bind fun y130 => (if x118001_1.length + y130.length < 17592186044416 then (planner_plan.j1 sums last k1 t122 t122 t118 (t118.length : Int) x17_1 l0_0 l0_1 a0_2 a0_3 a0_4 y127 (x118001_1 ++ y130) x118002_1 x118003_1 0) else (none))) = some (r1, r2, r3, r4, r5, r6) := by first | (rw [hy127]; with_reducible exact H) | (have H2_ := (Option.bind_some _ _).symm.trans H; rw [hy127]; with_reducible exact H2_) | (have H2_ := (Option.bind_some _ _).symm.trans H; with_reducible exact H2_) | with_reducible exact H | (rw [hy127]; exact H) | exact H
    have Ny127 := Aside0.mk hy127
    clear hy127
    obtain ⟨y130, hy130⟩ : ∃ y_ : List Int, y_ = (([ji15] : List Int)) := ⟨_, rfl⟩
    replace H : (if x118001_1.length + y130.length < 17592186044416 then (planner_plan.j1 sums last k1 t122 t122 t118 (t118.length : Int) x17_1 l0_0 l0_1 a0_2 a0_3 a0_4 y127 (x118001_1 ++ y130) x118002_1 x118003_1 0) else (none)) = some (r1, r2, r3, r4, r5, r6) := by first | (rw [hy130]; with_reducible exact H) | (have H2_ := (Option.bind_some _ _).symm.trans H; rw [hy130]; with_reducible exact H2_) | (have H2_ := (Option.bind_some _ _).symm.trans H; with_reducible exact H2_) | with_reducible exact H | (rw [hy130]; exact H) | exact H
    have Ny130 := Aside0.mk hy130
    clear hy130
    by_cases c24 : x118001_1.length + y130.length < 17592186044416
    case neg =>
     rw [if_neg c24] at H
     exact absurd H (by simp)
    rw [if_pos c24] at H
    have LMc24 := Aside0.mk c24
    clear c24
    obtain ⟨y133, hy133⟩ : ∃ y_ : List Int, y_ = (x118001_1 ++ y130) := ⟨_, rfl⟩
    replace H : (planner_plan.j1 sums last k1 t122 t122 t118 (t118.length : Int) x17_1 l0_0 l0_1 a0_2 a0_3 a0_4 y127 y133 x118002_1 x118003_1 0) = some (r1, r2, r3, r4, r5, r6) := by first | (rw [hy133]; with_reducible exact H) | (have H2_ := (Option.bind_some _ _).symm.trans H; rw [hy133]; with_reducible exact H2_) | (have H2_ := (Option.bind_some _ _).symm.trans H; with_reducible exact H2_) | with_reducible exact H | (rw [hy133]; exact H) | exact H
    have Ny133 := Aside0.mk hy133
    clear hy133
    have H' := Aside0.mk H
    clear H
    obtain ⟨Ao25, co25, eo25⟩ := Kd.R_slice HO_118000.out
    subst eo25
    obtain ⟨Ao26, co26, eo26⟩ := Kd.R_slice HO_118001.out
    subst eo26
    try go_wp2
    have n0_ := Aside0.mk (Kd.R_drew HO_15.out)
    have n1_ := Aside0.mk (Kd.R_drew HO_118000.out)
    have n2_ := Aside0.mk (Kd.R_drew HO_118001.out)
    have n3_ := Aside0.mk (Kd.R_drew HO_118002.out)
    have n4_ := Aside0.mk (Kd.R_drew HO_118003.out)
    have n5_ := Aside0.mk (blk_drew BK115.out)
    have n6_ := Aside0.mk (blk_drew BK116.out)
    have n7_ := Aside0.mk (blk_drew BK117.out)
    have n8_ := Aside0.mk (below_drew1 HB.out)
    clear HO_15 HO_118000 HO_118001 HO_118002 HO_118003 BK115 BK116 BK117 HB
    have HO_15 := n0_
    have HO_118000 := n1_
    have HO_118001 := n2_
    have HO_118002 := n3_
    have HO_118003 := n4_
    have BK115 := n5_
    have BK116 := n6_
    have BK117 := n7_
    have HB := n8_
    clear n0_ n1_ n2_ n3_ n4_ n5_ n6_ n7_ n8_
    refine start_ (n := 14) (S := fun w' => w'.cell? ⟨gb117, 0, none⟩ = some (.slice Ao25 x118000_1.length co25) ∧ w'.cell? ⟨gb117, 1, none⟩ = some (.slice Ao26 x118001_1.length co26) ∧ w'.cell? ⟨gb117, 2, none⟩ = some (u118002) ∧ w'.cell? ⟨gb117, 3, none⟩ = some (u118003) ∧ w'.cell? ⟨gb117, 4, none⟩ = some (.int .i64 0)) (ds := [11, 13]) #[false, false, false, false, false, false, false, false, false, false, false, false, false, false] (by kernel_rfl) rfl rfl ⟨(blk_cell BK117.out 0).trans rfl, (blk_cell BK117.out 1).trans rfl, (blk_cell BK117.out 2).trans rfl, (blk_cell BK117.out 3).trans rfl, (blk_cell BK117.out 4).trans rfl⟩ (fun hHeld => ?_); refine with_tabW planner_plan.tab12 planner_plan.bits12 (fun HT_ HW_ => ?_)
    generalize w22.drew = w27 at HO_15 HO_118000 HO_118001 HO_118002 HO_118003 BK115 BK116 BK117 HB hHeld ⊢
    refine pS (i := 0) (N := some 41) #[true, false, false, false, false, false, false, false, false, false, false, false, false, false] rfl rfl HT_.out ?_
    refine pS (i := 2) (N := some 43) #[true, false, true, false, false, false, false, false, false, false, false, false, false, false] rfl rfl HT_.out ?_
    refine pS (i := 5) (N := some 46) #[true, false, true, false, false, true, false, false, false, false, false, false, false, false] rfl rfl HT_.out ?_
    refine pS (i := 7) (N := some 48) #[true, false, true, false, false, true, false, true, false, false, false, false, false, false] rfl rfl HT_.out ?_
    refine take_ (i := 1) (N := some 42) (v := ?_) (a' := ?_) #[true, true, true, false, false, true, false, true, false, false, false, false, false, false] rfl rfl (take_ofW HT_.out HW_.out (by kernel_rfl)) (fun _ _ _ h => h) (Or.inl ⟨by rfl, ?_⟩) hHeld ?_ ?_; rotate_left
    ·rintro w' ⟨s0, s1, s2, s3, s4⟩
     go_simp
     with_reducible rfl
    rotate_left
    ·simp only [Act.put, List.setIfInBounds_toArray, List.set_cons_zero, List.set_cons_succ, i64_w, i32_w]
     rfl
    refine take_ (i := 6) (N := some 47) (v := ?_) (a' := ?_) #[true, true, true, false, false, true, true, true, false, false, false, false, false, false] rfl rfl (take_ofW HT_.out HW_.out (by kernel_rfl)) (fun _ _ _ h => h) (Or.inl ⟨by rfl, ?_⟩) hHeld ?_ ?_; rotate_left
    ·rintro w' ⟨s0, s1, s2, s3, s4⟩
     go_simp
     with_reducible rfl
    rotate_left
    ·simp only [Act.put, List.setIfInBounds_toArray, List.set_cons_zero, List.set_cons_succ, i64_w, i32_w]
     rfl
    refine join_ (σ := Value × Value × Value) 4 #[true, true, true, true, true, true, true, true, true, false, true, false, false, false] (fun s_ => [(44, s_.1), (45, s_.2.1), (49, s_.2.2), (51, .pointer (some ⟨gb117, 0, none⟩))]) (fun s_ w' => (w'.cell? ⟨gb117, 0, none⟩ = some (.slice Ao25 x118000_1.length co25) ∧ w'.cell? ⟨gb117, 1, none⟩ = some (.slice Ao26 x118001_1.length co26) ∧ w'.cell? ⟨gb117, 2, none⟩ = some (u118002) ∧ w'.cell? ⟨gb117, 3, none⟩ = some (u118003) ∧ w'.cell? ⟨gb117, 4, none⟩ = some (.int .i64 0)) ∧ (Kd.R (Kd.int .i64) 3 w' w.heap.size (fun k_ => some k_ ≠ (s_.2.1 : Value).ownBlock ∧ some k_ ≠ (s_.2.2 : Value).ownBlock ∧ some k_ ≠ (.slice Ao26 x118001_1.length co26 : Value).ownBlock ∧ some k_ ≠ (u118002 : Value).ownBlock ∧ some k_ ≠ (u118003 : Value).ownBlock ∧ some k_ ≠ (.slice (some ad121) t118.length co11 : Value).ownBlock) s_.1 y124) ∧ (Kd.R (Kd.int .i64) 3 w' w.heap.size (fun k_ => some k_ ≠ (s_.1 : Value).ownBlock ∧ some k_ ≠ (s_.2.2 : Value).ownBlock ∧ some k_ ≠ (.slice Ao26 x118001_1.length co26 : Value).ownBlock ∧ some k_ ≠ (u118002 : Value).ownBlock ∧ some k_ ≠ (u118003 : Value).ownBlock ∧ some k_ ≠ (.slice (some ad121) t118.length co11 : Value).ownBlock) s_.2.1 y127) ∧ (Kd.R (Kd.int .i64) 3 w' w.heap.size (fun k_ => some k_ ≠ (s_.1 : Value).ownBlock ∧ some k_ ≠ (s_.2.1 : Value).ownBlock ∧ some k_ ≠ (.slice Ao26 x118001_1.length co26 : Value).ownBlock ∧ some k_ ≠ (u118002 : Value).ownBlock ∧ some k_ ≠ (u118003 : Value).ownBlock ∧ some k_ ≠ (.slice (some ad121) t118.length co11 : Value).ownBlock) s_.2.2 y130) ∧ (Kd.R (Kd.int .i64) 3 w' w.heap.size (fun k_ => some k_ ≠ (s_.1 : Value).ownBlock ∧ some k_ ≠ (s_.2.1 : Value).ownBlock ∧ some k_ ≠ (s_.2.2 : Value).ownBlock ∧ some k_ ≠ (u118002 : Value).ownBlock ∧ some k_ ≠ (u118003 : Value).ownBlock ∧ some k_ ≠ (.slice (some ad121) t118.length co11 : Value).ownBlock) (.slice Ao26 x118001_1.length co26) x118001_1) ∧ (Kd.R (Kd.int .i64) 3 w' w.heap.size (fun k_ => some k_ ≠ (s_.1 : Value).ownBlock ∧ some k_ ≠ (s_.2.1 : Value).ownBlock ∧ some k_ ≠ (s_.2.2 : Value).ownBlock ∧ some k_ ≠ (.slice Ao26 x118001_1.length co26 : Value).ownBlock ∧ some k_ ≠ (u118003 : Value).ownBlock ∧ some k_ ≠ (.slice (some ad121) t118.length co11 : Value).ownBlock) u118002 x118002_1) ∧ (Kd.R (Kd.int .i64) 3 w' w.heap.size (fun k_ => some k_ ≠ (s_.1 : Value).ownBlock ∧ some k_ ≠ (s_.2.1 : Value).ownBlock ∧ some k_ ≠ (s_.2.2 : Value).ownBlock ∧ some k_ ≠ (.slice Ao26 x118001_1.length co26 : Value).ownBlock ∧ some k_ ≠ (u118002 : Value).ownBlock ∧ some k_ ≠ (.slice (some ad121) t118.length co11 : Value).ownBlock) u118003 x118003_1) ∧ (Kd.R (Kd.int .i64) 3 w' w.heap.size (fun k_ => some k_ ≠ (s_.1 : Value).ownBlock ∧ some k_ ≠ (s_.2.1 : Value).ownBlock ∧ some k_ ≠ (s_.2.2 : Value).ownBlock ∧ some k_ ≠ (.slice Ao26 x118001_1.length co26 : Value).ownBlock ∧ some k_ ≠ (u118002 : Value).ownBlock ∧ some k_ ≠ (u118003 : Value).ownBlock) (.slice (some ad121) t118.length co11) t118) ∧ (w'.heap[gb115]? = some (.cells #[.slice A0_0 l0_0.length c0_0, .slice A0_1 l0_1.length c0_1, .int .i64 a0_2, .int .i64 a0_3, .int .i64 a0_4] 24 (0, 0))) ∧ (w'.heap[gb116]? = some (.cells #[.slice none 0 0, .slice none 0 0, .slice none 0 0, .slice none 0 0, .int .i64 x117004_1] 28 (0, 0))) ∧ (w'.heap[gb117]? = some (.cells #[.slice Ao25 x118000_1.length co25, .slice Ao26 x118001_1.length co26, u118002, u118003, .int .i64 0] 28 (0, 0))) ∧ (Below w.heap.size w w')) ?_ ?_; rotate_left
    ·intro hCont
     refine two_ (i := 3) (j := 8) (Ni := some 44) (Nj := some 49) #[true, true, true, true, false, true, true, true, false, false, false, false, false, false] #[true, true, true, false, false, true, true, true, true, false, false, false, false, false] rfl rfl rfl rfl (two_of HT_.out (by kernel_rfl)) (by decide) (by decide) (fun K hK => ?_) (fun K hK => ?_)
     ·skip
      refine Kd.R_lit_step (Kd.int .i64) _ 3 ?hg (N := 44) ?hd (xs := ([wrap64 ((wrap64 (x17_1 + 1)) * a0_2)] : List Int)) (inner := [.int .i64 (wrap64 ((wrap64 (x17_1 + 1)) * a0_2))]) (ok := fun _ => True) (okp := fun _ => True) ?hr ?hp (fun _ hk => hk) trivial (Below.refl _ _) (Nat.le_refl _) (by simp) ?_; (case hd => rfl); (case hg => rfl); (case hr => first | (go_simp; done) | (go_simp; rfl)); (case hp => exact (Reps.one (show Kd.M (Kd.int .i64) _ _ _ (wrap64 ((wrap64 (x17_1 + 1)) * a0_2)) [.int .i64 (wrap64 ((wrap64 (x17_1 + 1)) * a0_2))] from rfl) (Reps.none _ _)))
      intro v125 w28 ho29 hb hg_ hnew_
      clear hg_ hnew_
      (first | rw [← Ny124.out] at ho29 | (simp only [Int.reduceToNat] at ho29; rw [← Ny124.out] at ho29))
      have n0_ := Aside0.mk (Kd.R_elder' (qR HO_15.out) (Kd.R_base ho29) hb)
      have n1_ := Aside0.mk (Kd.R_elder' (qR HO_118000.out) (Kd.R_base ho29) hb)
      have n2_ := Aside0.mk (Kd.R_elder' (qR HO_118001.out) (Kd.R_base ho29) hb)
      have n3_ := Aside0.mk (Kd.R_elder' (qR HO_118002.out) (Kd.R_base ho29) hb)
      have n4_ := Aside0.mk (Kd.R_elder' (qR HO_118003.out) (Kd.R_base ho29) hb)
      have n5_ := Aside0.mk (Kd.R_lower (Kd.R_new' (Kd.R_new' (Kd.R_new' (Kd.R_new' (Kd.R_new' ho29 (Kd.R_lt (qR HO_15.out))) (Kd.R_lt (qR HO_118000.out))) (Kd.R_lt (qR HO_118001.out))) (Kd.R_lt (qR HO_118002.out))) (Kd.R_lt (qR HO_118003.out))) (below_size (qW HB.out)))
      have n6_ := Aside0.mk (blk_below (qB BK115.out) hb)
      have n7_ := Aside0.mk (blk_below (qB BK116.out) hb)
      have n8_ := Aside0.mk (blk_below (qB BK117.out) hb)
      have n9_ := Aside0.mk (below_step (qW HB.out) hb)
      clear HO_15 HO_118000 HO_118001 HO_118002 HO_118003 BK115 BK116 BK117 HB
      have HO_15 := n0_
      have HO_118000 := n1_
      have HO_118001 := n2_
      have HO_118002 := n3_
      have HO_118003 := n4_
      have HO126 := n5_
      have BK115 := n6_
      have BK116 := n7_
      have BK117 := n8_
      have HB := n9_
      clear n0_ n1_ n2_ n3_ n4_ n5_ n6_ n7_ n8_ n9_ hb ho29
      obtain ⟨Ao31, co31, eo31⟩ := Kd.R_slice HO126.out
      (first | subst eo31 | (injection eo31 with f1_ f2_ f3_; have f4_ := f1_.symm; have f5_ := f3_.symm; clear f1_ f2_ f3_; subst f4_; subst f5_))
      refine hK.out _ _ ⟨(blk_cell BK117.out 0).trans rfl, (blk_cell BK117.out 1).trans rfl, (blk_cell BK117.out 2).trans rfl, (blk_cell BK117.out 3).trans rfl, (blk_cell BK117.out 4).trans rfl⟩ (fun hHeld => ?_); clear hK K
      refine norm_ (a' := ?_) ?_ ?_; rotate_left
      ·show Act.put _ (some 44) _ = _
       simp only [Act.put, List.setIfInBounds_toArray, List.set_cons_zero, List.set_cons_succ, i64_w, i32_w]
       rfl
      refine two_ (i := 4) (j := 8) (Ni := some 45) (Nj := some 49) #[true, true, true, true, true, true, true, true, false, false, false, false, false, false] #[true, true, true, true, false, true, true, true, true, false, false, false, false, false] rfl rfl rfl rfl (two_of HT_.out (by kernel_rfl)) (by decide) (by decide) (fun K hK => ?_) (fun K hK => ?_)
      ·skip
       refine Kd.R_append_rows_step (Kd.int .i64) (w0 := w) w.heap.size (by rfl) (.tmp 42) (.tmp 44) 22 3 (.int .i64 0) 8 rfl Try.underlying22 info3 rfl (by decide) (by omega) (.slice Ao25 x118000_1.length co25) x118000_1 y124 _ _ _ (fun k_ => some k_ ≠ (.slice (some ad121) t118.length co11 : Value).ownBlock ∧ some k_ ≠ (.slice Ao26 x118001_1.length co26 : Value).ownBlock ∧ some k_ ≠ (u118002 : Value).ownBlock ∧ some k_ ≠ (u118003 : Value).ownBlock ∧ some k_ ≠ (.slice Ao31 y124.length co31 : Value).ownBlock) (fun _ => False) rfl rfl ?aO ?aR (fun _ _ h => h) (fun _ h => h.elim) ?aF ?aB ?aS ?aL ?_
       (case aR => repeat (first | exact (Kd.R_reads' HO126.out).2.2 | (with_reducible refine Kd.C_alloc ?_ _) | (with_reducible refine Kd.C_drewN ?_ _) | (with_reducible refine Kd.C_drew ?_)))
       (case aB => exact (qW HB.out))
       (case aF => exact (fun k_ hk => ⟨Kd.fresh' (Kd.R_lt (qR HO_15.out)) k_ hk, Kd.fresh' (Kd.R_lt (qR HO_118001.out)) k_ hk, Kd.fresh' (Kd.R_lt (qR HO_118002.out)) k_ hk, Kd.fresh' (Kd.R_lt (qR HO_118003.out)) k_ hk, Kd.fresh' (Kd.R_lt (qR HO126.out)) k_ hk⟩))
       (case aO => exact (qR (Kd.R_mono HO_118000.out (fun _ hk => ⟨hk.1.1, ⟨hk.1.2.1, ⟨hk.1.2.2.1, ⟨hk.1.2.2.2, hk.2⟩⟩⟩⟩))))
       (case aS => exact (below_size (qW HB.out)))
       (case aL => have := LMc23.out; omega)
       intro v128 w30 ho hb hg hat
       rw [← Ny127.out] at ho
       have n0_ := Aside0.mk (Kd.R_after (ok := (fun k_ => some k_ ≠ (.slice Ao26 x118001_1.length co26 : Value).ownBlock ∧ some k_ ≠ (u118002 : Value).ownBlock ∧ some k_ ≠ (u118003 : Value).ownBlock ∧ some k_ ≠ (.slice Ao31 y124.length co31 : Value).ownBlock)) (qR (Kd.R_mono HO_15.out (fun _ hk => ⟨⟨hk.1.2.1, ⟨hk.1.2.2.1, ⟨hk.1.2.2.2, hk.2⟩⟩⟩, hk.1.1⟩))) hg hat)
       have n1_ := Aside0.mk (Kd.R_after (ok := (fun k_ => some k_ ≠ (.slice (some ad121) t118.length co11 : Value).ownBlock ∧ some k_ ≠ (u118002 : Value).ownBlock ∧ some k_ ≠ (u118003 : Value).ownBlock ∧ some k_ ≠ (.slice Ao31 y124.length co31 : Value).ownBlock)) (qR (Kd.R_mono HO_118001.out (fun _ hk => ⟨⟨hk.1.1, ⟨hk.1.2.2.1, ⟨hk.1.2.2.2, hk.2⟩⟩⟩, hk.1.2.1⟩))) hg hat)
       have n2_ := Aside0.mk (Kd.R_after (ok := (fun k_ => some k_ ≠ (.slice (some ad121) t118.length co11 : Value).ownBlock ∧ some k_ ≠ (.slice Ao26 x118001_1.length co26 : Value).ownBlock ∧ some k_ ≠ (u118003 : Value).ownBlock ∧ some k_ ≠ (.slice Ao31 y124.length co31 : Value).ownBlock)) (qR (Kd.R_mono HO_118002.out (fun _ hk => ⟨⟨hk.1.1, ⟨hk.1.2.2.1, ⟨hk.1.2.2.2, hk.2⟩⟩⟩, hk.1.2.1⟩))) hg hat)
       have n3_ := Aside0.mk (Kd.R_after (ok := (fun k_ => some k_ ≠ (.slice (some ad121) t118.length co11 : Value).ownBlock ∧ some k_ ≠ (.slice Ao26 x118001_1.length co26 : Value).ownBlock ∧ some k_ ≠ (u118002 : Value).ownBlock ∧ some k_ ≠ (.slice Ao31 y124.length co31 : Value).ownBlock)) (qR (Kd.R_mono HO_118003.out (fun _ hk => ⟨⟨hk.1.1, ⟨hk.1.2.2.1, ⟨hk.1.2.2.2, hk.2⟩⟩⟩, hk.1.2.1⟩))) hg hat)
       have n4_ := Aside0.mk (blk_grown (qB BK115.out) hg (Kd.R_ne HO_118000.out BK115.out (by decide)))
       have n5_ := Aside0.mk (blk_grown (qB BK116.out) hg (Kd.R_ne HO_118000.out BK116.out (by decide)))
       have n6_ := Aside0.mk (blk_grown (qB BK117.out) hg (Kd.R_ne HO_118000.out BK117.out (by decide)))
       have n7_ := Aside0.mk (Kd.R_after (ok := (fun k_ => some k_ ≠ (.slice (some ad121) t118.length co11 : Value).ownBlock ∧ some k_ ≠ (.slice Ao26 x118001_1.length co26 : Value).ownBlock ∧ some k_ ≠ (u118002 : Value).ownBlock ∧ some k_ ≠ (u118003 : Value).ownBlock)) (qR (Kd.R_mono HO126.out (fun _ hk => ⟨⟨hk.1.1.1.1.2, ⟨hk.1.1.2, ⟨hk.1.2, hk.2⟩⟩⟩, hk.1.1.1.2⟩))) hg hat)
       have n8_ := Aside0.mk (hb)
       have n9_ := Aside0.mk (ho)
       clear HO_15 HO_118001 HO_118002 HO_118003 BK115 BK116 BK117 HO126 HB HO_118000
       have HO_15 := n0_
       have HO_118001 := n1_
       have HO_118002 := n2_
       have HO_118003 := n3_
       have BK115 := n4_
       have BK116 := n5_
       have BK117 := n6_
       have HO126 := n7_
       have HB := n8_
       have HO129 := n9_
       clear n0_ n1_ n2_ n3_ n4_ n5_ n6_ n7_ n8_ n9_ ho hb hg hat
       refine hK.out _ _ ⟨(blk_cell BK117.out 0).trans rfl, (blk_cell BK117.out 1).trans rfl, (blk_cell BK117.out 2).trans rfl, (blk_cell BK117.out 3).trans rfl, (blk_cell BK117.out 4).trans rfl⟩ (fun hHeld => ?_); clear hK K
       refine norm_ (a' := ?_) ?_ ?_; rotate_left
       ·show Act.put _ (some 45) _ = _
        simp only [Act.put, List.setIfInBounds_toArray, List.set_cons_zero, List.set_cons_succ, i64_w, i32_w]
        rfl
       refine pS (i := 10) (N := some 51) #[true, true, true, true, true, true, true, true, false, false, true, false, false, false] rfl rfl HT_.out ?_
       refine one_ (i := 8) (N := some 49) #[true, true, true, true, true, true, true, true, true, false, true, false, false, false] rfl rfl (one_of HT_.out (by kernel_rfl)) (by decide) (fun K hK => ?_)
       refine Kd.R_lit_step (Kd.int .i64) _ 3 ?hg (N := 49) ?hd (xs := ([ji15] : List Int)) (inner := [.int .i64 ji15]) (ok := fun _ => True) (okp := fun _ => True) ?hr ?hp (fun _ hk => hk) trivial (Below.refl _ _) (Nat.le_refl _) (by simp) ?_; (case hd => rfl); (case hg => rfl); (case hr => first | (go_simp; done) | (go_simp; rfl)); (case hp => exact (Reps.one (show Kd.M (Kd.int .i64) _ _ _ ji15 [.int .i64 ji15] from rfl) (Reps.none _ _)))
       intro v131 w32 ho33 hb hg_ hnew_
       clear hg_ hnew_
       (first | rw [← Ny130.out] at ho33 | (simp only [Int.reduceToNat] at ho33; rw [← Ny130.out] at ho33))
       have n0_ := Aside0.mk (Kd.R_elder' (qR HO_15.out) (Kd.R_base ho33) hb)
       have n1_ := Aside0.mk (Kd.R_elder' (qR HO_118001.out) (Kd.R_base ho33) hb)
       have n2_ := Aside0.mk (Kd.R_elder' (qR HO_118002.out) (Kd.R_base ho33) hb)
       have n3_ := Aside0.mk (Kd.R_elder' (qR HO_118003.out) (Kd.R_base ho33) hb)
       have n4_ := Aside0.mk (Kd.R_elder' (qR HO126.out) (Kd.R_base ho33) hb)
       have n5_ := Aside0.mk (Kd.R_elder' (qR HO129.out) (Kd.R_base ho33) hb)
       have n6_ := Aside0.mk (Kd.R_lower (Kd.R_new' (Kd.R_new' (Kd.R_new' (Kd.R_new' (Kd.R_new' (Kd.R_new' ho33 (Kd.R_lt (qR HO_15.out))) (Kd.R_lt (qR HO_118001.out))) (Kd.R_lt (qR HO_118002.out))) (Kd.R_lt (qR HO_118003.out))) (Kd.R_lt (qR HO126.out))) (Kd.R_lt (qR HO129.out))) (below_size (qW HB.out)))
       have n7_ := Aside0.mk (blk_below (qB BK115.out) hb)
       have n8_ := Aside0.mk (blk_below (qB BK116.out) hb)
       have n9_ := Aside0.mk (blk_below (qB BK117.out) hb)
       have n10_ := Aside0.mk (below_step (qW HB.out) hb)
       clear HO_15 HO_118001 HO_118002 HO_118003 HO126 HO129 BK115 BK116 BK117 HB
       have HO_15 := n0_
       have HO_118001 := n1_
       have HO_118002 := n2_
       have HO_118003 := n3_
       have HO126 := n4_
       have HO129 := n5_
       have HO132 := n6_
       have BK115 := n7_
       have BK116 := n8_
       have BK117 := n9_
       have HB := n10_
       clear n0_ n1_ n2_ n3_ n4_ n5_ n6_ n7_ n8_ n9_ n10_ hb ho33
       refine hK.out _ _ ⟨(blk_cell BK117.out 0).trans rfl, (blk_cell BK117.out 1).trans rfl, (blk_cell BK117.out 2).trans rfl, (blk_cell BK117.out 3).trans rfl, (blk_cell BK117.out 4).trans rfl⟩ (fun hHeld => ?_); clear hK K
       refine norm_ (a' := ?_) ?_ ?_; rotate_left
       ·show Act.put _ (some 49) _ = _
        simp only [Act.put, List.setIfInBounds_toArray, List.set_cons_zero, List.set_cons_succ, i64_w, i32_w]
        rfl
       exact norm_ (by simp only [putAll, Act.put, List.setIfInBounds_toArray, List.set_cons_zero, List.set_cons_succ]) (hCont (.slice Ao31 y124.length co31, v128, v131) _ ⟨hHeld, (qR (Kd.R_mono HO126.out (fun _ hk => ⟨hk.1.2, ⟨hk.2, ⟨hk.1.1.2.1, ⟨hk.1.1.2.2.1, ⟨hk.1.1.2.2.2, hk.1.1.1⟩⟩⟩⟩⟩))), (qR (Kd.R_mono HO129.out (fun _ hk => ⟨hk.1.2.2.2.2, ⟨hk.2, ⟨hk.1.2.1, ⟨hk.1.2.2.1, ⟨hk.1.2.2.2.1, hk.1.1⟩⟩⟩⟩⟩))), (qR (Kd.R_mono HO132.out (fun _ hk => ⟨hk.1.2, ⟨hk.2, ⟨hk.1.1.1.1.2, ⟨hk.1.1.1.2, ⟨hk.1.1.2, hk.1.1.1.1.1.2⟩⟩⟩⟩⟩))), (qR (Kd.R_mono HO_118001.out (fun _ hk => ⟨hk.1.1.2.2.2, ⟨hk.1.2, ⟨hk.2, ⟨hk.1.1.2.1, ⟨hk.1.1.2.2.1, hk.1.1.1⟩⟩⟩⟩⟩))), (qR (Kd.R_mono HO_118002.out (fun _ hk => ⟨hk.1.1.2.2.2, ⟨hk.1.2, ⟨hk.2, ⟨hk.1.1.2.1, ⟨hk.1.1.2.2.1, hk.1.1.1⟩⟩⟩⟩⟩))), (qR (Kd.R_mono HO_118003.out (fun _ hk => ⟨hk.1.1.2.2.2, ⟨hk.1.2, ⟨hk.2, ⟨hk.1.1.2.1, ⟨hk.1.1.2.2.1, hk.1.1.1⟩⟩⟩⟩⟩))), (qR (Kd.R_mono HO_15.out (fun _ hk => ⟨hk.1.1.2.2.2, ⟨hk.1.2, ⟨hk.2, ⟨hk.1.1.1, ⟨hk.1.1.2.1, hk.1.1.2.2.1⟩⟩⟩⟩⟩))), (qB BK115.out), (qB BK116.out), (qB BK117.out), (qW HB.out)⟩)
      ·skip
       refine Kd.R_lit_step (Kd.int .i64) _ 3 ?hg (N := 49) ?hd (xs := ([ji15] : List Int)) (inner := [.int .i64 ji15]) (ok := fun _ => True) (okp := fun _ => True) ?hr ?hp (fun _ hk => hk) trivial (Below.refl _ _) (Nat.le_refl _) (by simp) ?_; (case hd => rfl); (case hg => rfl); (case hr => first | (go_simp; done) | (go_simp; rfl)); (case hp => exact (Reps.one (show Kd.M (Kd.int .i64) _ _ _ ji15 [.int .i64 ji15] from rfl) (Reps.none _ _)))
       intro v131 w30 ho31 hb hg_ hnew_
       clear hg_ hnew_
       (first | rw [← Ny130.out] at ho31 | (simp only [Int.reduceToNat] at ho31; rw [← Ny130.out] at ho31))
       have n0_ := Aside0.mk (Kd.R_elder' (qR HO_15.out) (Kd.R_base ho31) hb)
       have n1_ := Aside0.mk (Kd.R_elder' (qR HO_118000.out) (Kd.R_base ho31) hb)
       have n2_ := Aside0.mk (Kd.R_elder' (qR HO_118001.out) (Kd.R_base ho31) hb)
       have n3_ := Aside0.mk (Kd.R_elder' (qR HO_118002.out) (Kd.R_base ho31) hb)
       have n4_ := Aside0.mk (Kd.R_elder' (qR HO_118003.out) (Kd.R_base ho31) hb)
       have n5_ := Aside0.mk (Kd.R_elder' (qR HO126.out) (Kd.R_base ho31) hb)
       have n6_ := Aside0.mk (Kd.R_lower (Kd.R_new' (Kd.R_new' (Kd.R_new' (Kd.R_new' (Kd.R_new' (Kd.R_new' ho31 (Kd.R_lt (qR HO_15.out))) (Kd.R_lt (qR HO_118000.out))) (Kd.R_lt (qR HO_118001.out))) (Kd.R_lt (qR HO_118002.out))) (Kd.R_lt (qR HO_118003.out))) (Kd.R_lt (qR HO126.out))) (below_size (qW HB.out)))
       have n7_ := Aside0.mk (blk_below (qB BK115.out) hb)
       have n8_ := Aside0.mk (blk_below (qB BK116.out) hb)
       have n9_ := Aside0.mk (blk_below (qB BK117.out) hb)
       have n10_ := Aside0.mk (below_step (qW HB.out) hb)
       clear HO_15 HO_118000 HO_118001 HO_118002 HO_118003 HO126 BK115 BK116 BK117 HB
       have HO_15 := n0_
       have HO_118000 := n1_
       have HO_118001 := n2_
       have HO_118002 := n3_
       have HO_118003 := n4_
       have HO126 := n5_
       have HO132 := n6_
       have BK115 := n7_
       have BK116 := n8_
       have BK117 := n9_
       have HB := n10_
       clear n0_ n1_ n2_ n3_ n4_ n5_ n6_ n7_ n8_ n9_ n10_ hb ho31
       obtain ⟨Ao33, co33, eo33⟩ := Kd.R_slice HO126.out
       (first | subst eo33 | (injection eo33 with f1_ f2_ f3_; have f4_ := f1_.symm; have f5_ := f3_.symm; clear f1_ f2_ f3_; subst f4_; subst f5_))
       refine hK.out _ _ ⟨(blk_cell BK117.out 0).trans rfl, (blk_cell BK117.out 1).trans rfl, (blk_cell BK117.out 2).trans rfl, (blk_cell BK117.out 3).trans rfl, (blk_cell BK117.out 4).trans rfl⟩ (fun hHeld => ?_); clear hK K
       refine norm_ (a' := ?_) ?_ ?_; rotate_left
       ·show Act.put _ (some 49) _ = _
        simp only [Act.put, List.setIfInBounds_toArray, List.set_cons_zero, List.set_cons_succ, i64_w, i32_w]
        rfl
       refine one_ (i := 4) (N := some 45) #[true, true, true, true, true, true, true, true, true, false, false, false, false, false] rfl rfl (one_of HT_.out (by kernel_rfl)) (by decide) (fun K hK => ?_)
       refine Kd.R_append_rows_step (Kd.int .i64) (w0 := w) w.heap.size (by rfl) (.tmp 42) (.tmp 44) 22 3 (.int .i64 0) 8 rfl Try.underlying22 info3 rfl (by decide) (by omega) (.slice Ao25 x118000_1.length co25) x118000_1 y124 _ _ _ (fun k_ => some k_ ≠ (.slice (some ad121) t118.length co11 : Value).ownBlock ∧ some k_ ≠ (.slice Ao26 x118001_1.length co26 : Value).ownBlock ∧ some k_ ≠ (u118002 : Value).ownBlock ∧ some k_ ≠ (u118003 : Value).ownBlock ∧ some k_ ≠ (.slice Ao33 y124.length co33 : Value).ownBlock ∧ some k_ ≠ (v131 : Value).ownBlock) (fun _ => False) rfl rfl ?aO ?aR (fun _ _ h => h) (fun _ h => h.elim) ?aF ?aB ?aS ?aL ?_
       (case aR => repeat (first | exact (Kd.R_reads' HO126.out).2.2 | (with_reducible refine Kd.C_alloc ?_ _) | (with_reducible refine Kd.C_drewN ?_ _) | (with_reducible refine Kd.C_drew ?_)))
       (case aB => exact (qW HB.out))
       (case aF => exact (fun k_ hk => ⟨Kd.fresh' (Kd.R_lt (qR HO_15.out)) k_ hk, Kd.fresh' (Kd.R_lt (qR HO_118001.out)) k_ hk, Kd.fresh' (Kd.R_lt (qR HO_118002.out)) k_ hk, Kd.fresh' (Kd.R_lt (qR HO_118003.out)) k_ hk, Kd.fresh' (Kd.R_lt (qR HO126.out)) k_ hk, Kd.fresh' (Kd.R_lt (qR HO132.out)) k_ hk⟩))
       (case aO => exact (qR (Kd.R_mono HO_118000.out (fun _ hk => ⟨hk.1.1.1, ⟨hk.1.1.2.1, ⟨hk.1.1.2.2.1, ⟨hk.1.1.2.2.2, ⟨hk.1.2, hk.2⟩⟩⟩⟩⟩))))
       (case aS => exact (below_size (qW HB.out)))
       (case aL => have := LMc23.out; omega)
       intro v128 w32 ho hb hg hat
       rw [← Ny127.out] at ho
       have n0_ := Aside0.mk (Kd.R_after (ok := (fun k_ => some k_ ≠ (.slice Ao26 x118001_1.length co26 : Value).ownBlock ∧ some k_ ≠ (u118002 : Value).ownBlock ∧ some k_ ≠ (u118003 : Value).ownBlock ∧ some k_ ≠ (.slice Ao33 y124.length co33 : Value).ownBlock ∧ some k_ ≠ (v131 : Value).ownBlock)) (qR (Kd.R_mono HO_15.out (fun _ hk => ⟨⟨hk.1.1.2.1, ⟨hk.1.1.2.2.1, ⟨hk.1.1.2.2.2, ⟨hk.1.2, hk.2⟩⟩⟩⟩, hk.1.1.1⟩))) hg hat)
       have n1_ := Aside0.mk (Kd.R_after (ok := (fun k_ => some k_ ≠ (.slice (some ad121) t118.length co11 : Value).ownBlock ∧ some k_ ≠ (u118002 : Value).ownBlock ∧ some k_ ≠ (u118003 : Value).ownBlock ∧ some k_ ≠ (.slice Ao33 y124.length co33 : Value).ownBlock ∧ some k_ ≠ (v131 : Value).ownBlock)) (qR (Kd.R_mono HO_118001.out (fun _ hk => ⟨⟨hk.1.1.1, ⟨hk.1.1.2.2.1, ⟨hk.1.1.2.2.2, ⟨hk.1.2, hk.2⟩⟩⟩⟩, hk.1.1.2.1⟩))) hg hat)
       have n2_ := Aside0.mk (Kd.R_after (ok := (fun k_ => some k_ ≠ (.slice (some ad121) t118.length co11 : Value).ownBlock ∧ some k_ ≠ (.slice Ao26 x118001_1.length co26 : Value).ownBlock ∧ some k_ ≠ (u118003 : Value).ownBlock ∧ some k_ ≠ (.slice Ao33 y124.length co33 : Value).ownBlock ∧ some k_ ≠ (v131 : Value).ownBlock)) (qR (Kd.R_mono HO_118002.out (fun _ hk => ⟨⟨hk.1.1.1, ⟨hk.1.1.2.2.1, ⟨hk.1.1.2.2.2, ⟨hk.1.2, hk.2⟩⟩⟩⟩, hk.1.1.2.1⟩))) hg hat)
       have n3_ := Aside0.mk (Kd.R_after (ok := (fun k_ => some k_ ≠ (.slice (some ad121) t118.length co11 : Value).ownBlock ∧ some k_ ≠ (.slice Ao26 x118001_1.length co26 : Value).ownBlock ∧ some k_ ≠ (u118002 : Value).ownBlock ∧ some k_ ≠ (.slice Ao33 y124.length co33 : Value).ownBlock ∧ some k_ ≠ (v131 : Value).ownBlock)) (qR (Kd.R_mono HO_118003.out (fun _ hk => ⟨⟨hk.1.1.1, ⟨hk.1.1.2.2.1, ⟨hk.1.1.2.2.2, ⟨hk.1.2, hk.2⟩⟩⟩⟩, hk.1.1.2.1⟩))) hg hat)
       have n4_ := Aside0.mk (blk_grown (qB BK115.out) hg (Kd.R_ne HO_118000.out BK115.out (by decide)))
       have n5_ := Aside0.mk (blk_grown (qB BK116.out) hg (Kd.R_ne HO_118000.out BK116.out (by decide)))
       have n6_ := Aside0.mk (blk_grown (qB BK117.out) hg (Kd.R_ne HO_118000.out BK117.out (by decide)))
       have n7_ := Aside0.mk (Kd.R_after (ok := (fun k_ => some k_ ≠ (.slice (some ad121) t118.length co11 : Value).ownBlock ∧ some k_ ≠ (.slice Ao26 x118001_1.length co26 : Value).ownBlock ∧ some k_ ≠ (u118002 : Value).ownBlock ∧ some k_ ≠ (u118003 : Value).ownBlock ∧ some k_ ≠ (v131 : Value).ownBlock)) (qR (Kd.R_mono HO126.out (fun _ hk => ⟨⟨hk.1.1.1.1.1.2, ⟨hk.1.1.1.2, ⟨hk.1.1.2, ⟨hk.1.2, hk.2⟩⟩⟩⟩, hk.1.1.1.1.2⟩))) hg hat)
       have n8_ := Aside0.mk (Kd.R_after (ok := (fun k_ => some k_ ≠ (.slice (some ad121) t118.length co11 : Value).ownBlock ∧ some k_ ≠ (.slice Ao26 x118001_1.length co26 : Value).ownBlock ∧ some k_ ≠ (u118002 : Value).ownBlock ∧ some k_ ≠ (u118003 : Value).ownBlock ∧ some k_ ≠ (.slice Ao33 y124.length co33 : Value).ownBlock)) (qR (Kd.R_mono HO132.out (fun _ hk => ⟨⟨hk.1.1.1.1.1.2, ⟨hk.1.1.1.2, ⟨hk.1.1.2, ⟨hk.1.2, hk.2⟩⟩⟩⟩, hk.1.1.1.1.2⟩))) hg hat)
       have n9_ := Aside0.mk (hb)
       have n10_ := Aside0.mk (ho)
       clear HO_15 HO_118001 HO_118002 HO_118003 BK115 BK116 BK117 HO126 HO132 HB HO_118000
       have HO_15 := n0_
       have HO_118001 := n1_
       have HO_118002 := n2_
       have HO_118003 := n3_
       have BK115 := n4_
       have BK116 := n5_
       have BK117 := n6_
       have HO126 := n7_
       have HO132 := n8_
       have HB := n9_
       have HO129 := n10_
       clear n0_ n1_ n2_ n3_ n4_ n5_ n6_ n7_ n8_ n9_ n10_ ho hb hg hat
       refine hK.out _ _ ⟨(blk_cell BK117.out 0).trans rfl, (blk_cell BK117.out 1).trans rfl, (blk_cell BK117.out 2).trans rfl, (blk_cell BK117.out 3).trans rfl, (blk_cell BK117.out 4).trans rfl⟩ (fun hHeld => ?_); clear hK K
       refine norm_ (a' := ?_) ?_ ?_; rotate_left
       ·show Act.put _ (some 45) _ = _
        simp only [Act.put, List.setIfInBounds_toArray, List.set_cons_zero, List.set_cons_succ, i64_w, i32_w]
        rfl
       refine pS (i := 10) (N := some 51) #[true, true, true, true, true, true, true, true, true, false, true, false, false, false] rfl rfl HT_.out ?_
       exact norm_ (by simp only [putAll, Act.put, List.setIfInBounds_toArray, List.set_cons_zero, List.set_cons_succ]) (hCont (.slice Ao33 y124.length co33, v128, v131) _ ⟨hHeld, (qR (Kd.R_mono HO126.out (fun _ hk => ⟨hk.2, ⟨hk.1.2.2.2.2, ⟨hk.1.2.1, ⟨hk.1.2.2.1, ⟨hk.1.2.2.2.1, hk.1.1⟩⟩⟩⟩⟩))), (qR (Kd.R_mono HO129.out (fun _ hk => ⟨hk.2.2.2.2.1, ⟨hk.2.2.2.2.2, ⟨hk.2.1, ⟨hk.2.2.1, ⟨hk.2.2.2.1, hk.1⟩⟩⟩⟩⟩))), (qR (Kd.R_mono HO132.out (fun _ hk => ⟨hk.1.2.2.2.2, ⟨hk.2, ⟨hk.1.2.1, ⟨hk.1.2.2.1, ⟨hk.1.2.2.2.1, hk.1.1⟩⟩⟩⟩⟩))), (qR (Kd.R_mono HO_118001.out (fun _ hk => ⟨hk.1.2.2.2.1, ⟨hk.2, ⟨hk.1.2.2.2.2, ⟨hk.1.2.1, ⟨hk.1.2.2.1, hk.1.1⟩⟩⟩⟩⟩))), (qR (Kd.R_mono HO_118002.out (fun _ hk => ⟨hk.1.2.2.2.1, ⟨hk.2, ⟨hk.1.2.2.2.2, ⟨hk.1.2.1, ⟨hk.1.2.2.1, hk.1.1⟩⟩⟩⟩⟩))), (qR (Kd.R_mono HO_118003.out (fun _ hk => ⟨hk.1.2.2.2.1, ⟨hk.2, ⟨hk.1.2.2.2.2, ⟨hk.1.2.1, ⟨hk.1.2.2.1, hk.1.1⟩⟩⟩⟩⟩))), (qR (Kd.R_mono HO_15.out (fun _ hk => ⟨hk.1.2.2.2.1, ⟨hk.2, ⟨hk.1.2.2.2.2, ⟨hk.1.1, ⟨hk.1.2.1, hk.1.2.2.1⟩⟩⟩⟩⟩))), (qB BK115.out), (qB BK116.out), (qB BK117.out), (qW HB.out)⟩)
     ·skip
      refine Kd.R_lit_step (Kd.int .i64) _ 3 ?hg (N := 49) ?hd (xs := ([ji15] : List Int)) (inner := [.int .i64 ji15]) (ok := fun _ => True) (okp := fun _ => True) ?hr ?hp (fun _ hk => hk) trivial (Below.refl _ _) (Nat.le_refl _) (by simp) ?_; (case hd => rfl); (case hg => rfl); (case hr => first | (go_simp; done) | (go_simp; rfl)); (case hp => exact (Reps.one (show Kd.M (Kd.int .i64) _ _ _ ji15 [.int .i64 ji15] from rfl) (Reps.none _ _)))
      intro v131 w28 ho29 hb hg_ hnew_
      clear hg_ hnew_
      (first | rw [← Ny130.out] at ho29 | (simp only [Int.reduceToNat] at ho29; rw [← Ny130.out] at ho29))
      have n0_ := Aside0.mk (Kd.R_elder' (qR HO_15.out) (Kd.R_base ho29) hb)
      have n1_ := Aside0.mk (Kd.R_elder' (qR HO_118000.out) (Kd.R_base ho29) hb)
      have n2_ := Aside0.mk (Kd.R_elder' (qR HO_118001.out) (Kd.R_base ho29) hb)
      have n3_ := Aside0.mk (Kd.R_elder' (qR HO_118002.out) (Kd.R_base ho29) hb)
      have n4_ := Aside0.mk (Kd.R_elder' (qR HO_118003.out) (Kd.R_base ho29) hb)
      have n5_ := Aside0.mk (Kd.R_lower (Kd.R_new' (Kd.R_new' (Kd.R_new' (Kd.R_new' (Kd.R_new' ho29 (Kd.R_lt (qR HO_15.out))) (Kd.R_lt (qR HO_118000.out))) (Kd.R_lt (qR HO_118001.out))) (Kd.R_lt (qR HO_118002.out))) (Kd.R_lt (qR HO_118003.out))) (below_size (qW HB.out)))
      have n6_ := Aside0.mk (blk_below (qB BK115.out) hb)
      have n7_ := Aside0.mk (blk_below (qB BK116.out) hb)
      have n8_ := Aside0.mk (blk_below (qB BK117.out) hb)
      have n9_ := Aside0.mk (below_step (qW HB.out) hb)
      clear HO_15 HO_118000 HO_118001 HO_118002 HO_118003 BK115 BK116 BK117 HB
      have HO_15 := n0_
      have HO_118000 := n1_
      have HO_118001 := n2_
      have HO_118002 := n3_
      have HO_118003 := n4_
      have HO132 := n5_
      have BK115 := n6_
      have BK116 := n7_
      have BK117 := n8_
      have HB := n9_
      clear n0_ n1_ n2_ n3_ n4_ n5_ n6_ n7_ n8_ n9_ hb ho29
      refine hK.out _ _ ⟨(blk_cell BK117.out 0).trans rfl, (blk_cell BK117.out 1).trans rfl, (blk_cell BK117.out 2).trans rfl, (blk_cell BK117.out 3).trans rfl, (blk_cell BK117.out 4).trans rfl⟩ (fun hHeld => ?_); clear hK K
      refine norm_ (a' := ?_) ?_ ?_; rotate_left
      ·show Act.put _ (some 49) _ = _
       simp only [Act.put, List.setIfInBounds_toArray, List.set_cons_zero, List.set_cons_succ, i64_w, i32_w]
       rfl
      refine one_ (i := 3) (N := some 44) #[true, true, true, true, false, true, true, true, true, false, false, false, false, false] rfl rfl (one_of HT_.out (by kernel_rfl)) (by decide) (fun K hK => ?_)
      refine Kd.R_lit_step (Kd.int .i64) _ 3 ?hg (N := 44) ?hd (xs := ([wrap64 ((wrap64 (x17_1 + 1)) * a0_2)] : List Int)) (inner := [.int .i64 (wrap64 ((wrap64 (x17_1 + 1)) * a0_2))]) (ok := fun _ => True) (okp := fun _ => True) ?hr ?hp (fun _ hk => hk) trivial (Below.refl _ _) (Nat.le_refl _) (by simp) ?_; (case hd => rfl); (case hg => rfl); (case hr => first | (go_simp; done) | (go_simp; rfl)); (case hp => exact (Reps.one (show Kd.M (Kd.int .i64) _ _ _ (wrap64 ((wrap64 (x17_1 + 1)) * a0_2)) [.int .i64 (wrap64 ((wrap64 (x17_1 + 1)) * a0_2))] from rfl) (Reps.none _ _)))
      intro v125 w30 ho31 hb hg_ hnew_
      clear hg_ hnew_
      (first | rw [← Ny124.out] at ho31 | (simp only [Int.reduceToNat] at ho31; rw [← Ny124.out] at ho31))
      have n0_ := Aside0.mk (Kd.R_elder' (qR HO_15.out) (Kd.R_base ho31) hb)
      have n1_ := Aside0.mk (Kd.R_elder' (qR HO_118000.out) (Kd.R_base ho31) hb)
      have n2_ := Aside0.mk (Kd.R_elder' (qR HO_118001.out) (Kd.R_base ho31) hb)
      have n3_ := Aside0.mk (Kd.R_elder' (qR HO_118002.out) (Kd.R_base ho31) hb)
      have n4_ := Aside0.mk (Kd.R_elder' (qR HO_118003.out) (Kd.R_base ho31) hb)
      have n5_ := Aside0.mk (Kd.R_elder' (qR HO132.out) (Kd.R_base ho31) hb)
      have n6_ := Aside0.mk (Kd.R_lower (Kd.R_new' (Kd.R_new' (Kd.R_new' (Kd.R_new' (Kd.R_new' (Kd.R_new' ho31 (Kd.R_lt (qR HO_15.out))) (Kd.R_lt (qR HO_118000.out))) (Kd.R_lt (qR HO_118001.out))) (Kd.R_lt (qR HO_118002.out))) (Kd.R_lt (qR HO_118003.out))) (Kd.R_lt (qR HO132.out))) (below_size (qW HB.out)))
      have n7_ := Aside0.mk (blk_below (qB BK115.out) hb)
      have n8_ := Aside0.mk (blk_below (qB BK116.out) hb)
      have n9_ := Aside0.mk (blk_below (qB BK117.out) hb)
      have n10_ := Aside0.mk (below_step (qW HB.out) hb)
      clear HO_15 HO_118000 HO_118001 HO_118002 HO_118003 HO132 BK115 BK116 BK117 HB
      have HO_15 := n0_
      have HO_118000 := n1_
      have HO_118001 := n2_
      have HO_118002 := n3_
      have HO_118003 := n4_
      have HO132 := n5_
      have HO126 := n6_
      have BK115 := n7_
      have BK116 := n8_
      have BK117 := n9_
      have HB := n10_
      clear n0_ n1_ n2_ n3_ n4_ n5_ n6_ n7_ n8_ n9_ n10_ hb ho31
      obtain ⟨Ao33, co33, eo33⟩ := Kd.R_slice HO126.out
      (first | subst eo33 | (injection eo33 with f1_ f2_ f3_; have f4_ := f1_.symm; have f5_ := f3_.symm; clear f1_ f2_ f3_; subst f4_; subst f5_))
      refine hK.out _ _ ⟨(blk_cell BK117.out 0).trans rfl, (blk_cell BK117.out 1).trans rfl, (blk_cell BK117.out 2).trans rfl, (blk_cell BK117.out 3).trans rfl, (blk_cell BK117.out 4).trans rfl⟩ (fun hHeld => ?_); clear hK K
      refine norm_ (a' := ?_) ?_ ?_; rotate_left
      ·show Act.put _ (some 44) _ = _
       simp only [Act.put, List.setIfInBounds_toArray, List.set_cons_zero, List.set_cons_succ, i64_w, i32_w]
       rfl
      refine one_ (i := 4) (N := some 45) #[true, true, true, true, true, true, true, true, true, false, false, false, false, false] rfl rfl (one_of HT_.out (by kernel_rfl)) (by decide) (fun K hK => ?_)
      refine Kd.R_append_rows_step (Kd.int .i64) (w0 := w) w.heap.size (by rfl) (.tmp 42) (.tmp 44) 22 3 (.int .i64 0) 8 rfl Try.underlying22 info3 rfl (by decide) (by omega) (.slice Ao25 x118000_1.length co25) x118000_1 y124 _ _ _ (fun k_ => some k_ ≠ (.slice (some ad121) t118.length co11 : Value).ownBlock ∧ some k_ ≠ (.slice Ao26 x118001_1.length co26 : Value).ownBlock ∧ some k_ ≠ (u118002 : Value).ownBlock ∧ some k_ ≠ (u118003 : Value).ownBlock ∧ some k_ ≠ (v131 : Value).ownBlock ∧ some k_ ≠ (.slice Ao33 y124.length co33 : Value).ownBlock) (fun _ => False) rfl rfl ?aO ?aR (fun _ _ h => h) (fun _ h => h.elim) ?aF ?aB ?aS ?aL ?_
      (case aR => repeat (first | exact (Kd.R_reads' HO126.out).2.2 | (with_reducible refine Kd.C_alloc ?_ _) | (with_reducible refine Kd.C_drewN ?_ _) | (with_reducible refine Kd.C_drew ?_)))
      (case aB => exact (qW HB.out))
      (case aF => exact (fun k_ hk => ⟨Kd.fresh' (Kd.R_lt (qR HO_15.out)) k_ hk, Kd.fresh' (Kd.R_lt (qR HO_118001.out)) k_ hk, Kd.fresh' (Kd.R_lt (qR HO_118002.out)) k_ hk, Kd.fresh' (Kd.R_lt (qR HO_118003.out)) k_ hk, Kd.fresh' (Kd.R_lt (qR HO132.out)) k_ hk, Kd.fresh' (Kd.R_lt (qR HO126.out)) k_ hk⟩))
      (case aO => exact (qR (Kd.R_mono HO_118000.out (fun _ hk => ⟨hk.1.1.1, ⟨hk.1.1.2.1, ⟨hk.1.1.2.2.1, ⟨hk.1.1.2.2.2, ⟨hk.1.2, hk.2⟩⟩⟩⟩⟩))))
      (case aS => exact (below_size (qW HB.out)))
      (case aL => have := LMc23.out; omega)
      intro v128 w32 ho hb hg hat
      rw [← Ny127.out] at ho
      have n0_ := Aside0.mk (Kd.R_after (ok := (fun k_ => some k_ ≠ (.slice Ao26 x118001_1.length co26 : Value).ownBlock ∧ some k_ ≠ (u118002 : Value).ownBlock ∧ some k_ ≠ (u118003 : Value).ownBlock ∧ some k_ ≠ (v131 : Value).ownBlock ∧ some k_ ≠ (.slice Ao33 y124.length co33 : Value).ownBlock)) (qR (Kd.R_mono HO_15.out (fun _ hk => ⟨⟨hk.1.1.2.1, ⟨hk.1.1.2.2.1, ⟨hk.1.1.2.2.2, ⟨hk.1.2, hk.2⟩⟩⟩⟩, hk.1.1.1⟩))) hg hat)
      have n1_ := Aside0.mk (Kd.R_after (ok := (fun k_ => some k_ ≠ (.slice (some ad121) t118.length co11 : Value).ownBlock ∧ some k_ ≠ (u118002 : Value).ownBlock ∧ some k_ ≠ (u118003 : Value).ownBlock ∧ some k_ ≠ (v131 : Value).ownBlock ∧ some k_ ≠ (.slice Ao33 y124.length co33 : Value).ownBlock)) (qR (Kd.R_mono HO_118001.out (fun _ hk => ⟨⟨hk.1.1.1, ⟨hk.1.1.2.2.1, ⟨hk.1.1.2.2.2, ⟨hk.1.2, hk.2⟩⟩⟩⟩, hk.1.1.2.1⟩))) hg hat)
      have n2_ := Aside0.mk (Kd.R_after (ok := (fun k_ => some k_ ≠ (.slice (some ad121) t118.length co11 : Value).ownBlock ∧ some k_ ≠ (.slice Ao26 x118001_1.length co26 : Value).ownBlock ∧ some k_ ≠ (u118003 : Value).ownBlock ∧ some k_ ≠ (v131 : Value).ownBlock ∧ some k_ ≠ (.slice Ao33 y124.length co33 : Value).ownBlock)) (qR (Kd.R_mono HO_118002.out (fun _ hk => ⟨⟨hk.1.1.1, ⟨hk.1.1.2.2.1, ⟨hk.1.1.2.2.2, ⟨hk.1.2, hk.2⟩⟩⟩⟩, hk.1.1.2.1⟩))) hg hat)
      have n3_ := Aside0.mk (Kd.R_after (ok := (fun k_ => some k_ ≠ (.slice (some ad121) t118.length co11 : Value).ownBlock ∧ some k_ ≠ (.slice Ao26 x118001_1.length co26 : Value).ownBlock ∧ some k_ ≠ (u118002 : Value).ownBlock ∧ some k_ ≠ (v131 : Value).ownBlock ∧ some k_ ≠ (.slice Ao33 y124.length co33 : Value).ownBlock)) (qR (Kd.R_mono HO_118003.out (fun _ hk => ⟨⟨hk.1.1.1, ⟨hk.1.1.2.2.1, ⟨hk.1.1.2.2.2, ⟨hk.1.2, hk.2⟩⟩⟩⟩, hk.1.1.2.1⟩))) hg hat)
      have n4_ := Aside0.mk (blk_grown (qB BK115.out) hg (Kd.R_ne HO_118000.out BK115.out (by decide)))
      have n5_ := Aside0.mk (blk_grown (qB BK116.out) hg (Kd.R_ne HO_118000.out BK116.out (by decide)))
      have n6_ := Aside0.mk (blk_grown (qB BK117.out) hg (Kd.R_ne HO_118000.out BK117.out (by decide)))
      have n7_ := Aside0.mk (Kd.R_after (ok := (fun k_ => some k_ ≠ (.slice (some ad121) t118.length co11 : Value).ownBlock ∧ some k_ ≠ (.slice Ao26 x118001_1.length co26 : Value).ownBlock ∧ some k_ ≠ (u118002 : Value).ownBlock ∧ some k_ ≠ (u118003 : Value).ownBlock ∧ some k_ ≠ (.slice Ao33 y124.length co33 : Value).ownBlock)) (qR (Kd.R_mono HO132.out (fun _ hk => ⟨⟨hk.1.1.1.1.1.2, ⟨hk.1.1.1.2, ⟨hk.1.1.2, ⟨hk.1.2, hk.2⟩⟩⟩⟩, hk.1.1.1.1.2⟩))) hg hat)
      have n8_ := Aside0.mk (Kd.R_after (ok := (fun k_ => some k_ ≠ (.slice (some ad121) t118.length co11 : Value).ownBlock ∧ some k_ ≠ (.slice Ao26 x118001_1.length co26 : Value).ownBlock ∧ some k_ ≠ (u118002 : Value).ownBlock ∧ some k_ ≠ (u118003 : Value).ownBlock ∧ some k_ ≠ (v131 : Value).ownBlock)) (qR (Kd.R_mono HO126.out (fun _ hk => ⟨⟨hk.1.1.1.1.1.2, ⟨hk.1.1.1.2, ⟨hk.1.1.2, ⟨hk.1.2, hk.2⟩⟩⟩⟩, hk.1.1.1.1.2⟩))) hg hat)
      have n9_ := Aside0.mk (hb)
      have n10_ := Aside0.mk (ho)
      clear HO_15 HO_118001 HO_118002 HO_118003 BK115 BK116 BK117 HO132 HO126 HB HO_118000
      have HO_15 := n0_
      have HO_118001 := n1_
      have HO_118002 := n2_
      have HO_118003 := n3_
      have BK115 := n4_
      have BK116 := n5_
      have BK117 := n6_
      have HO132 := n7_
      have HO126 := n8_
      have HB := n9_
      have HO129 := n10_
      clear n0_ n1_ n2_ n3_ n4_ n5_ n6_ n7_ n8_ n9_ n10_ ho hb hg hat
      refine hK.out _ _ ⟨(blk_cell BK117.out 0).trans rfl, (blk_cell BK117.out 1).trans rfl, (blk_cell BK117.out 2).trans rfl, (blk_cell BK117.out 3).trans rfl, (blk_cell BK117.out 4).trans rfl⟩ (fun hHeld => ?_); clear hK K
      refine norm_ (a' := ?_) ?_ ?_; rotate_left
      ·show Act.put _ (some 45) _ = _
       simp only [Act.put, List.setIfInBounds_toArray, List.set_cons_zero, List.set_cons_succ, i64_w, i32_w]
       rfl
      refine pS (i := 10) (N := some 51) #[true, true, true, true, true, true, true, true, true, false, true, false, false, false] rfl rfl HT_.out ?_
      exact norm_ (by simp only [putAll, Act.put, List.setIfInBounds_toArray, List.set_cons_zero, List.set_cons_succ]) (hCont (.slice Ao33 y124.length co33, v128, v131) _ ⟨hHeld, (qR (Kd.R_mono HO126.out (fun _ hk => ⟨hk.2, ⟨hk.1.2.2.2.2, ⟨hk.1.2.1, ⟨hk.1.2.2.1, ⟨hk.1.2.2.2.1, hk.1.1⟩⟩⟩⟩⟩))), (qR (Kd.R_mono HO129.out (fun _ hk => ⟨hk.2.2.2.2.2, ⟨hk.2.2.2.2.1, ⟨hk.2.1, ⟨hk.2.2.1, ⟨hk.2.2.2.1, hk.1⟩⟩⟩⟩⟩))), (qR (Kd.R_mono HO132.out (fun _ hk => ⟨hk.1.2.2.2.2, ⟨hk.2, ⟨hk.1.2.1, ⟨hk.1.2.2.1, ⟨hk.1.2.2.2.1, hk.1.1⟩⟩⟩⟩⟩))), (qR (Kd.R_mono HO_118001.out (fun _ hk => ⟨hk.1.2.2.2.2, ⟨hk.2, ⟨hk.1.2.2.2.1, ⟨hk.1.2.1, ⟨hk.1.2.2.1, hk.1.1⟩⟩⟩⟩⟩))), (qR (Kd.R_mono HO_118002.out (fun _ hk => ⟨hk.1.2.2.2.2, ⟨hk.2, ⟨hk.1.2.2.2.1, ⟨hk.1.2.1, ⟨hk.1.2.2.1, hk.1.1⟩⟩⟩⟩⟩))), (qR (Kd.R_mono HO_118003.out (fun _ hk => ⟨hk.1.2.2.2.2, ⟨hk.2, ⟨hk.1.2.2.2.1, ⟨hk.1.2.1, ⟨hk.1.2.2.1, hk.1.1⟩⟩⟩⟩⟩))), (qR (Kd.R_mono HO_15.out (fun _ hk => ⟨hk.1.2.2.2.2, ⟨hk.2, ⟨hk.1.2.2.2.1, ⟨hk.1.1, ⟨hk.1.2.1, hk.1.2.2.1⟩⟩⟩⟩⟩))), (qB BK115.out), (qB BK116.out), (qB BK117.out), (qW HB.out)⟩)
    rintro ⟨v125, v128, v131⟩ w34 ⟨hS_, h0_, h1_, h2_, h3_, h4_, h5_, h6_, h7_, h8_, h9_, h10_⟩
    have n0_ : Aside0 (Kd.R (Kd.int .i64) 3 w34 w.heap.size (fun k_ => some k_ ≠ (v128 : Value).ownBlock ∧ some k_ ≠ (v131 : Value).ownBlock ∧ some k_ ≠ (.slice Ao26 x118001_1.length co26 : Value).ownBlock ∧ some k_ ≠ (u118002 : Value).ownBlock ∧ some k_ ≠ (u118003 : Value).ownBlock ∧ some k_ ≠ (.slice (some ad121) t118.length co11 : Value).ownBlock) v125 y124) := ⟨h0_⟩
    have n1_ : Aside0 (Kd.R (Kd.int .i64) 3 w34 w.heap.size (fun k_ => some k_ ≠ (v125 : Value).ownBlock ∧ some k_ ≠ (v131 : Value).ownBlock ∧ some k_ ≠ (.slice Ao26 x118001_1.length co26 : Value).ownBlock ∧ some k_ ≠ (u118002 : Value).ownBlock ∧ some k_ ≠ (u118003 : Value).ownBlock ∧ some k_ ≠ (.slice (some ad121) t118.length co11 : Value).ownBlock) v128 y127) := ⟨h1_⟩
    have n2_ : Aside0 (Kd.R (Kd.int .i64) 3 w34 w.heap.size (fun k_ => some k_ ≠ (v125 : Value).ownBlock ∧ some k_ ≠ (v128 : Value).ownBlock ∧ some k_ ≠ (.slice Ao26 x118001_1.length co26 : Value).ownBlock ∧ some k_ ≠ (u118002 : Value).ownBlock ∧ some k_ ≠ (u118003 : Value).ownBlock ∧ some k_ ≠ (.slice (some ad121) t118.length co11 : Value).ownBlock) v131 y130) := ⟨h2_⟩
    have n3_ : Aside0 (Kd.R (Kd.int .i64) 3 w34 w.heap.size (fun k_ => some k_ ≠ (v125 : Value).ownBlock ∧ some k_ ≠ (v128 : Value).ownBlock ∧ some k_ ≠ (v131 : Value).ownBlock ∧ some k_ ≠ (u118002 : Value).ownBlock ∧ some k_ ≠ (u118003 : Value).ownBlock ∧ some k_ ≠ (.slice (some ad121) t118.length co11 : Value).ownBlock) (.slice Ao26 x118001_1.length co26) x118001_1) := ⟨h3_⟩
    have n4_ : Aside0 (Kd.R (Kd.int .i64) 3 w34 w.heap.size (fun k_ => some k_ ≠ (v125 : Value).ownBlock ∧ some k_ ≠ (v128 : Value).ownBlock ∧ some k_ ≠ (v131 : Value).ownBlock ∧ some k_ ≠ (.slice Ao26 x118001_1.length co26 : Value).ownBlock ∧ some k_ ≠ (u118003 : Value).ownBlock ∧ some k_ ≠ (.slice (some ad121) t118.length co11 : Value).ownBlock) u118002 x118002_1) := ⟨h4_⟩
    have n5_ : Aside0 (Kd.R (Kd.int .i64) 3 w34 w.heap.size (fun k_ => some k_ ≠ (v125 : Value).ownBlock ∧ some k_ ≠ (v128 : Value).ownBlock ∧ some k_ ≠ (v131 : Value).ownBlock ∧ some k_ ≠ (.slice Ao26 x118001_1.length co26 : Value).ownBlock ∧ some k_ ≠ (u118002 : Value).ownBlock ∧ some k_ ≠ (.slice (some ad121) t118.length co11 : Value).ownBlock) u118003 x118003_1) := ⟨h5_⟩
    have n6_ : Aside0 (Kd.R (Kd.int .i64) 3 w34 w.heap.size (fun k_ => some k_ ≠ (v125 : Value).ownBlock ∧ some k_ ≠ (v128 : Value).ownBlock ∧ some k_ ≠ (v131 : Value).ownBlock ∧ some k_ ≠ (.slice Ao26 x118001_1.length co26 : Value).ownBlock ∧ some k_ ≠ (u118002 : Value).ownBlock ∧ some k_ ≠ (u118003 : Value).ownBlock) (.slice (some ad121) t118.length co11) t118) := ⟨h6_⟩
    have n7_ : Aside0 (w34.heap[gb115]? = some (.cells #[.slice A0_0 l0_0.length c0_0, .slice A0_1 l0_1.length c0_1, .int .i64 a0_2, .int .i64 a0_3, .int .i64 a0_4] 24 (0, 0))) := ⟨h7_⟩
    have n8_ : Aside0 (w34.heap[gb116]? = some (.cells #[.slice none 0 0, .slice none 0 0, .slice none 0 0, .slice none 0 0, .int .i64 x117004_1] 28 (0, 0))) := ⟨h8_⟩
    have n9_ : Aside0 (w34.heap[gb117]? = some (.cells #[.slice Ao25 x118000_1.length co25, .slice Ao26 x118001_1.length co26, u118002, u118003, .int .i64 0] 28 (0, 0))) := ⟨h9_⟩
    have n10_ : Aside0 (Below w.heap.size w w34) := ⟨h10_⟩
    clear HO_15 HO_118000 HO_118001 HO_118002 HO_118003 BK115 BK116 BK117 HB h0_ h1_ h2_ h3_ h4_ h5_ h6_ h7_ h8_ h9_ h10_
    have HO126 := n0_
    have HO129 := n1_
    have HO132 := n2_
    have HO_118001 := n3_
    have HO_118002 := n4_
    have HO_118003 := n5_
    have HO_15 := n6_
    have BK115 := n7_
    have BK116 := n8_
    have BK117 := n9_
    have HB := n10_
    clear n0_ n1_ n2_ n3_ n4_ n5_ n6_ n7_ n8_ n9_ n10_
    have hHeld : w34.cell? ⟨gb117, 0, none⟩ = some (.slice Ao25 x118000_1.length co25) ∧ w34.cell? ⟨gb117, 1, none⟩ = some (.slice Ao26 x118001_1.length co26) ∧ w34.cell? ⟨gb117, 2, none⟩ = some (u118002) ∧ w34.cell? ⟨gb117, 3, none⟩ = some (u118003) ∧ w34.cell? ⟨gb117, 4, none⟩ = some (.int .i64 0) := hS_
    obtain ⟨Ao36, co36, eo36⟩ := Kd.R_slice HO132.out
    (first | subst eo36 | (injection eo36 with f1_ f2_ f3_; have f4_ := f1_.symm; have f5_ := f3_.symm; clear f1_ f2_ f3_; subst f4_; subst f5_))
    refine norm_ (a' := ?_) ?_ ?_; rotate_left
    ·simp only [putAll, Act.put, List.setIfInBounds_toArray, List.set_cons_zero, List.set_cons_succ]
     rfl
    refine one_ (i := 9) (N := some 50) #[true, true, true, true, true, true, true, true, true, true, true, false, false, false] rfl rfl (one_of HT_.out (by kernel_rfl)) (by decide) (fun K hK => ?_)
    refine Kd.R_append_rows_step (Kd.int .i64) (w0 := w) w.heap.size (by rfl) (.tmp 47) (.tmp 49) 22 3 (.int .i64 0) 8 rfl Try.underlying22 info3 rfl (by decide) (by omega) (.slice Ao26 x118001_1.length co26) x118001_1 y130 _ _ _ (fun k_ => some k_ ≠ (.slice (some ad121) t118.length co11 : Value).ownBlock ∧ some k_ ≠ (u118002 : Value).ownBlock ∧ some k_ ≠ (u118003 : Value).ownBlock ∧ some k_ ≠ (v125 : Value).ownBlock ∧ some k_ ≠ (v128 : Value).ownBlock ∧ some k_ ≠ (.slice Ao36 y130.length co36 : Value).ownBlock) (fun _ => False) rfl rfl ?aO ?aR (fun _ _ h => h) (fun _ h => h.elim) ?aF ?aB ?aS ?aL ?_
    (case aR => repeat (first | exact (Kd.R_reads' HO132.out).2.2 | (with_reducible refine Kd.C_alloc ?_ _) | (with_reducible refine Kd.C_drewN ?_ _) | (with_reducible refine Kd.C_drew ?_)))
    (case aB => exact (qW HB.out))
    (case aF => exact (fun k_ hk => ⟨Kd.fresh' (Kd.R_lt (qR HO_15.out)) k_ hk, Kd.fresh' (Kd.R_lt (qR HO_118002.out)) k_ hk, Kd.fresh' (Kd.R_lt (qR HO_118003.out)) k_ hk, Kd.fresh' (Kd.R_lt (qR HO126.out)) k_ hk, Kd.fresh' (Kd.R_lt (qR HO129.out)) k_ hk, Kd.fresh' (Kd.R_lt (qR HO132.out)) k_ hk⟩))
    (case aO => exact (qR (Kd.R_mono HO_118001.out (fun _ hk => ⟨hk.2.2.2.2.2, ⟨hk.2.2.2.1, ⟨hk.2.2.2.2.1, ⟨hk.1, ⟨hk.2.1, hk.2.2.1⟩⟩⟩⟩⟩))))
    (case aS => exact (below_size (qW HB.out)))
    (case aL => have := LMc24.out; omega)
    intro v134 w35 ho hb hg hat
    rw [← Ny133.out] at ho
    have n0_ := Aside0.mk (Kd.R_after (ok := (fun k_ => some k_ ≠ (u118002 : Value).ownBlock ∧ some k_ ≠ (u118003 : Value).ownBlock ∧ some k_ ≠ (v125 : Value).ownBlock ∧ some k_ ≠ (v128 : Value).ownBlock ∧ some k_ ≠ (.slice Ao36 y130.length co36 : Value).ownBlock)) (qR (Kd.R_mono HO_15.out (fun _ hk => ⟨⟨hk.2.2.2.2.1, ⟨hk.2.2.2.2.2, ⟨hk.1, ⟨hk.2.1, hk.2.2.1⟩⟩⟩⟩, hk.2.2.2.1⟩))) hg hat)
    have n1_ := Aside0.mk (Kd.R_after (ok := (fun k_ => some k_ ≠ (.slice (some ad121) t118.length co11 : Value).ownBlock ∧ some k_ ≠ (u118003 : Value).ownBlock ∧ some k_ ≠ (v125 : Value).ownBlock ∧ some k_ ≠ (v128 : Value).ownBlock ∧ some k_ ≠ (.slice Ao36 y130.length co36 : Value).ownBlock)) (qR (Kd.R_mono HO_118002.out (fun _ hk => ⟨⟨hk.2.2.2.2.2, ⟨hk.2.2.2.2.1, ⟨hk.1, ⟨hk.2.1, hk.2.2.1⟩⟩⟩⟩, hk.2.2.2.1⟩))) hg hat)
    have n2_ := Aside0.mk (Kd.R_after (ok := (fun k_ => some k_ ≠ (.slice (some ad121) t118.length co11 : Value).ownBlock ∧ some k_ ≠ (u118002 : Value).ownBlock ∧ some k_ ≠ (v125 : Value).ownBlock ∧ some k_ ≠ (v128 : Value).ownBlock ∧ some k_ ≠ (.slice Ao36 y130.length co36 : Value).ownBlock)) (qR (Kd.R_mono HO_118003.out (fun _ hk => ⟨⟨hk.2.2.2.2.2, ⟨hk.2.2.2.2.1, ⟨hk.1, ⟨hk.2.1, hk.2.2.1⟩⟩⟩⟩, hk.2.2.2.1⟩))) hg hat)
    have n3_ := Aside0.mk (blk_grown (qB BK115.out) hg (Kd.R_ne HO_118001.out BK115.out (by decide)))
    have n4_ := Aside0.mk (blk_grown (qB BK116.out) hg (Kd.R_ne HO_118001.out BK116.out (by decide)))
    have n5_ := Aside0.mk (blk_grown (qB BK117.out) hg (Kd.R_ne HO_118001.out BK117.out (by decide)))
    have n6_ := Aside0.mk (Kd.R_after (ok := (fun k_ => some k_ ≠ (.slice (some ad121) t118.length co11 : Value).ownBlock ∧ some k_ ≠ (u118002 : Value).ownBlock ∧ some k_ ≠ (u118003 : Value).ownBlock ∧ some k_ ≠ (v128 : Value).ownBlock ∧ some k_ ≠ (.slice Ao36 y130.length co36 : Value).ownBlock)) (qR (Kd.R_mono HO126.out (fun _ hk => ⟨⟨hk.2.2.2.2.2, ⟨hk.2.2.2.1, ⟨hk.2.2.2.2.1, ⟨hk.1, hk.2.1⟩⟩⟩⟩, hk.2.2.1⟩))) hg hat)
    have n7_ := Aside0.mk (Kd.R_after (ok := (fun k_ => some k_ ≠ (.slice (some ad121) t118.length co11 : Value).ownBlock ∧ some k_ ≠ (u118002 : Value).ownBlock ∧ some k_ ≠ (u118003 : Value).ownBlock ∧ some k_ ≠ (v125 : Value).ownBlock ∧ some k_ ≠ (.slice Ao36 y130.length co36 : Value).ownBlock)) (qR (Kd.R_mono HO129.out (fun _ hk => ⟨⟨hk.2.2.2.2.2, ⟨hk.2.2.2.1, ⟨hk.2.2.2.2.1, ⟨hk.1, hk.2.1⟩⟩⟩⟩, hk.2.2.1⟩))) hg hat)
    have n8_ := Aside0.mk (Kd.R_after (ok := (fun k_ => some k_ ≠ (.slice (some ad121) t118.length co11 : Value).ownBlock ∧ some k_ ≠ (u118002 : Value).ownBlock ∧ some k_ ≠ (u118003 : Value).ownBlock ∧ some k_ ≠ (v125 : Value).ownBlock ∧ some k_ ≠ (v128 : Value).ownBlock)) (qR (Kd.R_mono HO132.out (fun _ hk => ⟨⟨hk.2.2.2.2.2, ⟨hk.2.2.2.1, ⟨hk.2.2.2.2.1, ⟨hk.1, hk.2.1⟩⟩⟩⟩, hk.2.2.1⟩))) hg hat)
    have n9_ := Aside0.mk (hb)
    have n10_ := Aside0.mk (ho)
    clear HO_15 HO_118002 HO_118003 BK115 BK116 BK117 HO126 HO129 HO132 HB HO_118001
    have HO_15 := n0_
    have HO_118002 := n1_
    have HO_118003 := n2_
    have BK115 := n3_
    have BK116 := n4_
    have BK117 := n5_
    have HO126 := n6_
    have HO129 := n7_
    have HO132 := n8_
    have HB := n9_
    have HO135 := n10_
    clear n0_ n1_ n2_ n3_ n4_ n5_ n6_ n7_ n8_ n9_ n10_ ho hb hg hat
    obtain ⟨Ao37, co37, eo37⟩ := Kd.R_slice HO129.out
    (first | subst eo37 | (injection eo37 with f1_ f2_ f3_; have f4_ := f1_.symm; have f5_ := f3_.symm; clear f1_ f2_ f3_; subst f4_; subst f5_))
    obtain ⟨Ao39, co39, eo39⟩ := Kd.R_slice HO135.out
    (first | subst eo39 | (injection eo39 with f1_ f2_ f3_; have f4_ := f1_.symm; have f5_ := f3_.symm; clear f1_ f2_ f3_; subst f4_; subst f5_))
    refine hK.out _ _ ⟨(blk_cell BK117.out 0).trans rfl, (blk_cell BK117.out 1).trans rfl, (blk_cell BK117.out 2).trans rfl, (blk_cell BK117.out 3).trans rfl, (blk_cell BK117.out 4).trans rfl⟩ (fun hHeld => ?_); clear hK K
    refine norm_ (a' := ?_) ?_ ?_; rotate_left
    ·show Act.put _ (some 50) _ = _
     simp only [Act.put, List.setIfInBounds_toArray, List.set_cons_zero, List.set_cons_succ, i64_w, i32_w]
     rfl
    refine last_ (i := 11) (N := none) #[true, true, true, true, true, true, true, true, true, true, true, true, false, false] rfl rfl (one_of HT_.out (by kernel_rfl)) (by decide) (fun K hK => ?_)
    have hs38 : w35.cell? ⟨gb117, 0, none⟩ = some (.slice Ao25 x118000_1.length co25) := (blk_cell BK117.out 0).trans rfl
    have hfs38 := blk_frozen BK117.out 0
    have hns38_0 := NB115_117.out
    have hns38_1 := NB116_117.out
    have hms38_0 := NB117_115.out
    have hms38_1 := NB117_116.out
    refine skip_ (w1 := ?_) (by rfl) rfl ?_ ?_; rotate_left
    ·go_simp
     rfl
    refine hK.out _ _ ?_; clear hK K
    refine pS (i := 12) (N := some 52) #[true, true, true, true, true, true, true, true, true, true, true, true, true, false] rfl rfl HT_.out ?_
    refine last_ (i := 13) (N := none) #[true, true, true, true, true, true, true, true, true, true, true, true, true, true] rfl rfl (one_of HT_.out (by kernel_rfl)) (by decide) (fun K hK => ?_)
    have hs40 : w35.cell? ⟨gb117, 1, none⟩ = some (.slice Ao26 x118001_1.length co26) := (blk_cell BK117.out 1).trans rfl
    have hfs40 := blk_frozen BK117.out 1
    have hns40_0 := NB115_117.out
    have hns40_1 := NB116_117.out
    have hms40_0 := NB117_115.out
    have hms40_1 := NB117_116.out
    refine skip_ (w1 := ?_) (by rfl) rfl ?_ ?_; rotate_left
    ·go_simp
     rfl
    refine hK.out _ _ ?_; clear hK K
    refine done_ (done_of HT_.out (by kernel_rfl)) ?_
    try go_wp2
    go_meet
    case rel => exact ⟨_, (y127), (y133), (.slice Ao37 y127.length co37), (.slice Ao39 y133.length co39), H', ⟨by have := HK1.out; first | omega | exact Nat.le_refl _⟩, ⟨by exact qR (Kd.R_mono (Kd.R_far (p := ⟨gb117, 1, none⟩) (Kd.R_far (p := ⟨gb117, 0, none⟩) (Kd.R_types HO_15.out BK117.out (by decide)) (fun _ hk => hk.2) (.slice Ao37 y127.length co37)) (fun _ hk => hk.2) (.slice Ao39 y133.length co39)) (fun _ hk => ⟨hk.1.1.2.2.2.1, ⟨hk.1.2, ⟨hk.1.1.1, hk.1.1.2.1⟩⟩⟩))⟩, ⟨by exact qR (Kd.R_mono (Kd.R_far (p := ⟨gb117, 1, none⟩) (Kd.R_far (p := ⟨gb117, 0, none⟩) (Kd.R_types HO129.out BK117.out (by decide)) (fun _ hk => hk.2) (.slice Ao37 y127.length co37)) (fun _ hk => hk.2) (.slice Ao39 y133.length co39)) (fun _ hk => ⟨hk.1.1.1, ⟨hk.1.2, ⟨hk.1.1.2.1, hk.1.1.2.2.1⟩⟩⟩))⟩, ⟨by exact qR (Kd.R_mono (Kd.R_far (p := ⟨gb117, 1, none⟩) (Kd.R_far (p := ⟨gb117, 0, none⟩) (Kd.R_types HO135.out BK117.out (by decide)) (fun _ hk => hk.2) (.slice Ao37 y127.length co37)) (fun _ hk => hk.2) (.slice Ao39 y133.length co39)) (fun _ hk => ⟨hk.1.1, ⟨hk.1.2.2.2.2.1, ⟨hk.1.2.1, hk.1.2.2.1⟩⟩⟩))⟩, ⟨by exact qR (Kd.R_mono (Kd.R_far (p := ⟨gb117, 1, none⟩) (Kd.R_far (p := ⟨gb117, 0, none⟩) (Kd.R_types HO_118002.out BK117.out (by decide)) (fun _ hk => hk.2) (.slice Ao37 y127.length co37)) (fun _ hk => hk.2) (.slice Ao39 y133.length co39)) (fun _ hk => ⟨hk.1.1.1, ⟨hk.1.1.2.2.2.1, ⟨hk.1.2, hk.1.1.2.1⟩⟩⟩))⟩, ⟨by exact qR (Kd.R_mono (Kd.R_far (p := ⟨gb117, 1, none⟩) (Kd.R_far (p := ⟨gb117, 0, none⟩) (Kd.R_types HO_118003.out BK117.out (by decide)) (fun _ hk => hk.2) (.slice Ao37 y127.length co37)) (fun _ hk => hk.2) (.slice Ao39 y133.length co39)) (fun _ hk => ⟨hk.1.1.1, ⟨hk.1.1.2.2.2.1, ⟨hk.1.2, hk.1.1.2.1⟩⟩⟩))⟩, ⟨by (with_reducible repeat (first | refine blk_drewN ?_ _ | refine blk_drew ?_ | refine blk_alloc ?_ _)); refine blk_far ?_ NB115_117.out _; (with_reducible repeat (first | refine blk_drewN ?_ _ | refine blk_drew ?_ | refine blk_alloc ?_ _)); refine blk_far ?_ NB115_117.out _; exact qB BK115.out⟩, ⟨by (with_reducible repeat (first | refine blk_drewN ?_ _ | refine blk_drew ?_ | refine blk_alloc ?_ _)); refine blk_far ?_ NB116_117.out _; (with_reducible repeat (first | refine blk_drewN ?_ _ | refine blk_drew ?_ | refine blk_alloc ?_ _)); refine blk_far ?_ NB116_117.out _; exact qB BK116.out⟩, ⟨by (with_reducible repeat (first | refine blk_drewN ?_ _ | refine blk_drew ?_ | refine blk_alloc ?_ _)); refine blk_put (cs := #[.slice Ao37 y127.length co37, .slice Ao26 x118001_1.length co26, u118002, u118003, .int .i64 0]) ?_ 1 _ rfl; (with_reducible repeat (first | refine blk_drewN ?_ _ | refine blk_drew ?_ | refine blk_alloc ?_ _)); refine blk_put (cs := #[.slice Ao25 x118000_1.length co25, .slice Ao26 x118001_1.length co26, u118002, u118003, .int .i64 0]) ?_ 0 _ rfl; exact qB BK117.out⟩, ⟨by repeat (first | (with_reducible first | exact HB.out | apply below_alloc | apply pw_below_drewN | apply below_drew1 | refine below_set ?_ GE115.out | refine below_set ?_ GE116.out | refine below_set ?_ GE117.out) | exact HB.out)⟩⟩
   case rest =>
    clear HC18
    try clear c2
    try clear p2
    try clear p6
    try clear c23
    try clear c24
    obtain ⟨kq, x118000_17, x118001_17, u118000, u118001, HA, HJ17, HO_15, HO_118000, HO_118001, HO_118002, HO_118003, BK115, BK116, BK117, HB⟩ := hcut
    cases kq with
    | zero => exact absurd HA.out (by simp [planner_plan.j1])
    | succ kj17 =>
     have H := HA.out
     clear HA
     simp only [planner_plan.j1] at H
     obtain ⟨y136, hy136⟩ : ∃ y_ : List Int, y_ = (([t122] : List Int)) := ⟨_, rfl⟩
     replace H : (if x118002_1.length + y136.length < 17592186044416 then ((some (([wrap64 ((wrap64 (t122 + a0_3)) + a0_4)] : List Int) : List Int)).bind fun y142 => (if x118003_1.length + y142.length < 17592186044416 then (planner_plan.l0 sums last kj17 t122 t118 (t118.length : Int) (wrap64 (x17_1 + 1)) l0_0 l0_1 a0_2 a0_3 a0_4 x118000_17 x118001_17 (x118002_1 ++ y136) (x118003_1 ++ y142) 0) else (none))) else (none)) = some (r1, r2, r3, r4, r5, r6) := by first | (rw [hy136]; with_reducible exact H) | (have H2_ := (Option.bind_some _ _).symm.trans H; rw [hy136]; with_reducible exact H2_) | (have H2_ := (Option.bind_some _ _).symm.trans H; with_reducible exact H2_) | with_reducible exact H | (rw [hy136]; exact H) | exact H
     have Ny136 := Aside0.mk hy136
     clear hy136
     by_cases c41 : x118002_1.length + y136.length < 17592186044416
     case neg =>
      rw [if_neg c41] at H
      exact absurd H (by simp)
     rw [if_pos c41] at H
     have LMc41 := Aside0.mk c41
     clear c41
     obtain ⟨y139, hy139⟩ : ∃ y_ : List Int, y_ = (x118002_1 ++ y136) := ⟨_, rfl⟩
     replace H : ((some (([wrap64 ((wrap64 (t122 + a0_3)) + a0_4)] : List Int) : List Int)).bind fun y142 => (if x118003_1.length + y142.length < 17592186044416 then (planner_plan.l0 sums last kj17 t122 t118 (t118.length : Int) (wrap64 (x17_1 + 1)) l0_0 l0_1 a0_2 a0_3 a0_4 x118000_17 x118001_17 y139 (x118003_1 ++ y142) 0) else (none))) = some (r1, r2, r3, r4, r5, r6) := by first | (rw [hy139]; with_reducible exact H) | (have H2_ := (Option.bind_some _ _).symm.trans H; rw [hy139]; with_reducible exact H2_) | (have H2_ := (Option.bind_some _ _).symm.trans H; with_reducible exact H2_) | with_reducible exact H | (rw [hy139]; exact H) | exact H
     have Ny139 := Aside0.mk hy139
     clear hy139
     obtain ⟨y142, hy142⟩ : ∃ y_ : List Int, y_ = (([wrap64 ((wrap64 (t122 + a0_3)) + a0_4)] : List Int)) := ⟨_, rfl⟩
     replace H : (if x118003_1.length + y142.length < 17592186044416 then (planner_plan.l0 sums last kj17 t122 t118 (t118.length : Int) (wrap64 (x17_1 + 1)) l0_0 l0_1 a0_2 a0_3 a0_4 x118000_17 x118001_17 y139 (x118003_1 ++ y142) 0) else (none)) = some (r1, r2, r3, r4, r5, r6) := by first | (rw [hy142]; with_reducible exact H) | (have H2_ := (Option.bind_some _ _).symm.trans H; rw [hy142]; with_reducible exact H2_) | (have H2_ := (Option.bind_some _ _).symm.trans H; with_reducible exact H2_) | with_reducible exact H | (rw [hy142]; exact H) | exact H
     have Ny142 := Aside0.mk hy142
     clear hy142
     by_cases c42 : x118003_1.length + y142.length < 17592186044416
     case neg =>
      rw [if_neg c42] at H
      exact absurd H (by simp)
     rw [if_pos c42] at H
     have LMc42 := Aside0.mk c42
     clear c42
     obtain ⟨y145, hy145⟩ : ∃ y_ : List Int, y_ = (x118003_1 ++ y142) := ⟨_, rfl⟩
     replace H : (planner_plan.l0 sums last kj17 t122 t118 (t118.length : Int) (wrap64 (x17_1 + 1)) l0_0 l0_1 a0_2 a0_3 a0_4 x118000_17 x118001_17 y139 y145 0) = some (r1, r2, r3, r4, r5, r6) := by first | (rw [hy145]; with_reducible exact H) | (have H2_ := (Option.bind_some _ _).symm.trans H; rw [hy145]; with_reducible exact H2_) | (have H2_ := (Option.bind_some _ _).symm.trans H; with_reducible exact H2_) | with_reducible exact H | (rw [hy145]; exact H) | exact H
     have Ny145 := Aside0.mk hy145
     clear hy145
     have H' := Aside0.mk H
     clear H
     obtain ⟨Ao43, co43, eo43⟩ := Kd.R_slice HO_118002.out
     subst eo43
     obtain ⟨Ao44, co44, eo44⟩ := Kd.R_slice HO_118003.out
     subst eo44
     try go_wp2
     have n0_ := Aside0.mk (Kd.R_drew HO_15.out)
     have n1_ := Aside0.mk (Kd.R_drew HO_118000.out)
     have n2_ := Aside0.mk (Kd.R_drew HO_118001.out)
     have n3_ := Aside0.mk (Kd.R_drew HO_118002.out)
     have n4_ := Aside0.mk (Kd.R_drew HO_118003.out)
     have n5_ := Aside0.mk (blk_drew BK115.out)
     have n6_ := Aside0.mk (blk_drew BK116.out)
     have n7_ := Aside0.mk (blk_drew BK117.out)
     have n8_ := Aside0.mk (below_drew1 HB.out)
     clear HO_15 HO_118000 HO_118001 HO_118002 HO_118003 BK115 BK116 BK117 HB
     have HO_15 := n0_
     have HO_118000 := n1_
     have HO_118001 := n2_
     have HO_118002 := n3_
     have HO_118003 := n4_
     have BK115 := n5_
     have BK116 := n6_
     have BK117 := n7_
     have HB := n8_
     clear n0_ n1_ n2_ n3_ n4_ n5_ n6_ n7_ n8_
     refine start_ (n := 20) (S := fun w' => w'.cell? ⟨gb117, 0, none⟩ = some (u118000) ∧ w'.cell? ⟨gb117, 1, none⟩ = some (u118001) ∧ w'.cell? ⟨gb117, 2, none⟩ = some (.slice Ao43 x118002_1.length co43) ∧ w'.cell? ⟨gb117, 3, none⟩ = some (.slice Ao44 x118003_1.length co44) ∧ w'.cell? ⟨gb117, 4, none⟩ = some (.int .i64 0) ∧ w'.cell? ⟨gb115, 0, none⟩ = some (.slice A0_0 l0_0.length c0_0) ∧ w'.cell? ⟨gb115, 1, none⟩ = some (.slice A0_1 l0_1.length c0_1) ∧ w'.cell? ⟨gb115, 2, none⟩ = some (.int .i64 a0_2) ∧ w'.cell? ⟨gb115, 3, none⟩ = some (.int .i64 a0_3) ∧ w'.cell? ⟨gb115, 4, none⟩ = some (.int .i64 a0_4)) (ds := [17, 19]) #[false, false, false, false, false, false, false, false, false, false, false, false, false, false, false, false, false, false, false, false] (by kernel_rfl) rfl rfl ⟨(blk_cell BK117.out 0).trans rfl, (blk_cell BK117.out 1).trans rfl, (blk_cell BK117.out 2).trans rfl, (blk_cell BK117.out 3).trans rfl, (blk_cell BK117.out 4).trans rfl, (blk_cell BK115.out 0).trans rfl, (blk_cell BK115.out 1).trans rfl, (blk_cell BK115.out 2).trans rfl, (blk_cell BK115.out 3).trans rfl, (blk_cell BK115.out 4).trans rfl⟩ (fun hHeld => ?_); refine with_tabW planner_plan.tab13 planner_plan.bits13 (fun HT_ HW_ => ?_)
     generalize wc.drew = w45 at HO_15 HO_118000 HO_118001 HO_118002 HO_118003 BK115 BK116 BK117 HB hHeld ⊢
     refine pS (i := 0) (N := some 53) #[true, false, false, false, false, false, false, false, false, false, false, false, false, false, false, false, false, false, false, false] rfl rfl HT_.out ?_
     refine pS (i := 2) (N := some 55) #[true, false, true, false, false, false, false, false, false, false, false, false, false, false, false, false, false, false, false, false] rfl rfl HT_.out ?_
     refine pS (i := 5) (N := some 58) #[true, false, true, false, false, true, false, false, false, false, false, false, false, false, false, false, false, false, false, false] rfl rfl HT_.out ?_
     refine pS (i := 7) (N := some 60) #[true, false, true, false, false, true, false, true, false, false, false, false, false, false, false, false, false, false, false, false] rfl rfl HT_.out ?_
     refine pS (i := 8) (N := some 61) #[true, false, true, false, false, true, false, true, true, false, false, false, false, false, false, false, false, false, false, false] rfl rfl HT_.out ?_
     refine pS (i := 11) (N := some 64) #[true, false, true, false, false, true, false, true, true, false, false, true, false, false, false, false, false, false, false, false] rfl rfl HT_.out ?_
     refine take_ (i := 1) (N := some 54) (v := ?_) (a' := ?_) #[true, true, true, false, false, true, false, true, true, false, false, true, false, false, false, false, false, false, false, false] rfl rfl (take_ofW HT_.out HW_.out (by kernel_rfl)) (fun _ _ _ h => h) (Or.inl ⟨by rfl, ?_⟩) hHeld ?_ ?_; rotate_left
     ·rintro w' ⟨s0, s1, s2, s3, s4, s5, s6, s7, s8, s9⟩
      go_simp
      with_reducible rfl
     rotate_left
     ·simp only [Act.put, List.setIfInBounds_toArray, List.set_cons_zero, List.set_cons_succ, i64_w, i32_w]
      rfl
     refine take_ (i := 6) (N := some 59) (v := ?_) (a' := ?_) #[true, true, true, false, false, true, true, true, true, false, false, true, false, false, false, false, false, false, false, false] rfl rfl (take_ofW HT_.out HW_.out (by kernel_rfl)) (fun _ _ _ h => h) (Or.inl ⟨by rfl, ?_⟩) hHeld ?_ ?_; rotate_left
     ·rintro w' ⟨s0, s1, s2, s3, s4, s5, s6, s7, s8, s9⟩
      go_simp
      with_reducible rfl
     rotate_left
     ·simp only [Act.put, List.setIfInBounds_toArray, List.set_cons_zero, List.set_cons_succ, i64_w, i32_w]
      rfl
     refine take_ (i := 9) (N := some 62) (v := ?_) (a' := ?_) #[true, true, true, false, false, true, true, true, true, true, false, true, false, false, false, false, false, false, false, false] rfl rfl (take_ofW HT_.out HW_.out (by kernel_rfl)) (fun _ _ _ h => h) (Or.inl ⟨by rfl, ?_⟩) hHeld ?_ ?_; rotate_left
     ·rintro w' ⟨s0, s1, s2, s3, s4, s5, s6, s7, s8, s9⟩
      go_simp
      with_reducible rfl
     rotate_left
     ·simp only [Act.put, List.setIfInBounds_toArray, List.set_cons_zero, List.set_cons_succ, i64_w, i32_w]
      rfl
     refine pS (i := 10) (N := some 63) #[true, true, true, false, false, true, true, true, true, true, true, true, false, false, false, false, false, false, false, false] rfl rfl HT_.out ?_
     refine take_ (i := 12) (N := some 65) (v := ?_) (a' := ?_) #[true, true, true, false, false, true, true, true, true, true, true, true, true, false, false, false, false, false, false, false] rfl rfl (take_ofW HT_.out HW_.out (by kernel_rfl)) (fun _ _ _ h => h) (Or.inl ⟨by rfl, ?_⟩) hHeld ?_ ?_; rotate_left
     ·rintro w' ⟨s0, s1, s2, s3, s4, s5, s6, s7, s8, s9⟩
      go_simp
      with_reducible rfl
     rotate_left
     ·simp only [Act.put, List.setIfInBounds_toArray, List.set_cons_zero, List.set_cons_succ, i64_w, i32_w]
      rfl
     refine pS (i := 13) (N := some 66) #[true, true, true, false, false, true, true, true, true, true, true, true, true, true, false, false, false, false, false, false] rfl rfl HT_.out ?_
     refine join_ (σ := Value × Value × Value) 4 #[true, true, true, true, true, true, true, true, true, true, true, true, true, true, true, false, true, false, false, false] (fun s_ => [(56, s_.1), (57, s_.2.1), (67, s_.2.2), (69, .pointer (some ⟨gb117, 2, none⟩))]) (fun s_ w' => (w'.cell? ⟨gb117, 0, none⟩ = some (u118000) ∧ w'.cell? ⟨gb117, 1, none⟩ = some (u118001) ∧ w'.cell? ⟨gb117, 2, none⟩ = some (.slice Ao43 x118002_1.length co43) ∧ w'.cell? ⟨gb117, 3, none⟩ = some (.slice Ao44 x118003_1.length co44) ∧ w'.cell? ⟨gb117, 4, none⟩ = some (.int .i64 0) ∧ w'.cell? ⟨gb115, 0, none⟩ = some (.slice A0_0 l0_0.length c0_0) ∧ w'.cell? ⟨gb115, 1, none⟩ = some (.slice A0_1 l0_1.length c0_1) ∧ w'.cell? ⟨gb115, 2, none⟩ = some (.int .i64 a0_2) ∧ w'.cell? ⟨gb115, 3, none⟩ = some (.int .i64 a0_3) ∧ w'.cell? ⟨gb115, 4, none⟩ = some (.int .i64 a0_4)) ∧ (Kd.R (Kd.int .i64) 3 w' w.heap.size (fun k_ => some k_ ≠ (s_.2.1 : Value).ownBlock ∧ some k_ ≠ (s_.2.2 : Value).ownBlock ∧ some k_ ≠ (u118000 : Value).ownBlock ∧ some k_ ≠ (u118001 : Value).ownBlock ∧ some k_ ≠ (.slice Ao44 x118003_1.length co44 : Value).ownBlock ∧ some k_ ≠ (.slice (some ad121) t118.length co11 : Value).ownBlock) s_.1 y136) ∧ (Kd.R (Kd.int .i64) 3 w' w.heap.size (fun k_ => some k_ ≠ (s_.1 : Value).ownBlock ∧ some k_ ≠ (s_.2.2 : Value).ownBlock ∧ some k_ ≠ (u118000 : Value).ownBlock ∧ some k_ ≠ (u118001 : Value).ownBlock ∧ some k_ ≠ (.slice Ao44 x118003_1.length co44 : Value).ownBlock ∧ some k_ ≠ (.slice (some ad121) t118.length co11 : Value).ownBlock) s_.2.1 y139) ∧ (Kd.R (Kd.int .i64) 3 w' w.heap.size (fun k_ => some k_ ≠ (s_.1 : Value).ownBlock ∧ some k_ ≠ (s_.2.1 : Value).ownBlock ∧ some k_ ≠ (u118000 : Value).ownBlock ∧ some k_ ≠ (u118001 : Value).ownBlock ∧ some k_ ≠ (.slice Ao44 x118003_1.length co44 : Value).ownBlock ∧ some k_ ≠ (.slice (some ad121) t118.length co11 : Value).ownBlock) s_.2.2 y142) ∧ (Kd.R (Kd.int .i64) 3 w' w.heap.size (fun k_ => some k_ ≠ (s_.1 : Value).ownBlock ∧ some k_ ≠ (s_.2.1 : Value).ownBlock ∧ some k_ ≠ (s_.2.2 : Value).ownBlock ∧ some k_ ≠ (u118001 : Value).ownBlock ∧ some k_ ≠ (.slice Ao44 x118003_1.length co44 : Value).ownBlock ∧ some k_ ≠ (.slice (some ad121) t118.length co11 : Value).ownBlock) u118000 x118000_17) ∧ (Kd.R (Kd.int .i64) 3 w' w.heap.size (fun k_ => some k_ ≠ (s_.1 : Value).ownBlock ∧ some k_ ≠ (s_.2.1 : Value).ownBlock ∧ some k_ ≠ (s_.2.2 : Value).ownBlock ∧ some k_ ≠ (u118000 : Value).ownBlock ∧ some k_ ≠ (.slice Ao44 x118003_1.length co44 : Value).ownBlock ∧ some k_ ≠ (.slice (some ad121) t118.length co11 : Value).ownBlock) u118001 x118001_17) ∧ (Kd.R (Kd.int .i64) 3 w' w.heap.size (fun k_ => some k_ ≠ (s_.1 : Value).ownBlock ∧ some k_ ≠ (s_.2.1 : Value).ownBlock ∧ some k_ ≠ (s_.2.2 : Value).ownBlock ∧ some k_ ≠ (u118000 : Value).ownBlock ∧ some k_ ≠ (u118001 : Value).ownBlock ∧ some k_ ≠ (.slice (some ad121) t118.length co11 : Value).ownBlock) (.slice Ao44 x118003_1.length co44) x118003_1) ∧ (Kd.R (Kd.int .i64) 3 w' w.heap.size (fun k_ => some k_ ≠ (s_.1 : Value).ownBlock ∧ some k_ ≠ (s_.2.1 : Value).ownBlock ∧ some k_ ≠ (s_.2.2 : Value).ownBlock ∧ some k_ ≠ (u118000 : Value).ownBlock ∧ some k_ ≠ (u118001 : Value).ownBlock ∧ some k_ ≠ (.slice Ao44 x118003_1.length co44 : Value).ownBlock) (.slice (some ad121) t118.length co11) t118) ∧ (w'.heap[gb115]? = some (.cells #[.slice A0_0 l0_0.length c0_0, .slice A0_1 l0_1.length c0_1, .int .i64 a0_2, .int .i64 a0_3, .int .i64 a0_4] 24 (0, 0))) ∧ (w'.heap[gb116]? = some (.cells #[.slice none 0 0, .slice none 0 0, .slice none 0 0, .slice none 0 0, .int .i64 x117004_1] 28 (0, 0))) ∧ (w'.heap[gb117]? = some (.cells #[u118000, u118001, .slice Ao43 x118002_1.length co43, .slice Ao44 x118003_1.length co44, .int .i64 0] 28 (0, 0))) ∧ (Below w.heap.size w w')) ?_ ?_; rotate_left
     ·intro hCont
      refine two_ (i := 3) (j := 14) (Ni := some 56) (Nj := some 67) #[true, true, true, true, false, true, true, true, true, true, true, true, true, true, false, false, false, false, false, false] #[true, true, true, false, false, true, true, true, true, true, true, true, true, true, true, false, false, false, false, false] rfl rfl rfl rfl (two_of HT_.out (by kernel_rfl)) (by decide) (by decide) (fun K hK => ?_) (fun K hK => ?_)
      ·skip
       refine Kd.R_lit_step (Kd.int .i64) _ 3 ?hg (N := 56) ?hd (xs := ([t122] : List Int)) (inner := [.int .i64 t122]) (ok := fun _ => True) (okp := fun _ => True) ?hr ?hp (fun _ hk => hk) trivial (Below.refl _ _) (Nat.le_refl _) (by simp) ?_; (case hd => rfl); (case hg => rfl); (case hr => first | (go_simp; done) | (go_simp; rfl)); (case hp => exact (Reps.one (show Kd.M (Kd.int .i64) _ _ _ t122 [.int .i64 t122] from rfl) (Reps.none _ _)))
       intro v137 w46 ho47 hb hg_ hnew_
       clear hg_ hnew_
       (first | rw [← Ny136.out] at ho47 | (simp only [Int.reduceToNat] at ho47; rw [← Ny136.out] at ho47))
       have n0_ := Aside0.mk (Kd.R_elder' (qR HO_15.out) (Kd.R_base ho47) hb)
       have n1_ := Aside0.mk (Kd.R_elder' (qR HO_118000.out) (Kd.R_base ho47) hb)
       have n2_ := Aside0.mk (Kd.R_elder' (qR HO_118001.out) (Kd.R_base ho47) hb)
       have n3_ := Aside0.mk (Kd.R_elder' (qR HO_118002.out) (Kd.R_base ho47) hb)
       have n4_ := Aside0.mk (Kd.R_elder' (qR HO_118003.out) (Kd.R_base ho47) hb)
       have n5_ := Aside0.mk (Kd.R_lower (Kd.R_new' (Kd.R_new' (Kd.R_new' (Kd.R_new' (Kd.R_new' ho47 (Kd.R_lt (qR HO_15.out))) (Kd.R_lt (qR HO_118000.out))) (Kd.R_lt (qR HO_118001.out))) (Kd.R_lt (qR HO_118002.out))) (Kd.R_lt (qR HO_118003.out))) (below_size (qW HB.out)))
       have n6_ := Aside0.mk (blk_below (qB BK115.out) hb)
       have n7_ := Aside0.mk (blk_below (qB BK116.out) hb)
       have n8_ := Aside0.mk (blk_below (qB BK117.out) hb)
       have n9_ := Aside0.mk (below_step (qW HB.out) hb)
       clear HO_15 HO_118000 HO_118001 HO_118002 HO_118003 BK115 BK116 BK117 HB
       have HO_15 := n0_
       have HO_118000 := n1_
       have HO_118001 := n2_
       have HO_118002 := n3_
       have HO_118003 := n4_
       have HO138 := n5_
       have BK115 := n6_
       have BK116 := n7_
       have BK117 := n8_
       have HB := n9_
       clear n0_ n1_ n2_ n3_ n4_ n5_ n6_ n7_ n8_ n9_ hb ho47
       obtain ⟨Ao49, co49, eo49⟩ := Kd.R_slice HO138.out
       (first | subst eo49 | (injection eo49 with f1_ f2_ f3_; have f4_ := f1_.symm; have f5_ := f3_.symm; clear f1_ f2_ f3_; subst f4_; subst f5_))
       refine hK.out _ _ ⟨(blk_cell BK117.out 0).trans rfl, (blk_cell BK117.out 1).trans rfl, (blk_cell BK117.out 2).trans rfl, (blk_cell BK117.out 3).trans rfl, (blk_cell BK117.out 4).trans rfl, (blk_cell BK115.out 0).trans rfl, (blk_cell BK115.out 1).trans rfl, (blk_cell BK115.out 2).trans rfl, (blk_cell BK115.out 3).trans rfl, (blk_cell BK115.out 4).trans rfl⟩ (fun hHeld => ?_); clear hK K
       refine norm_ (a' := ?_) ?_ ?_; rotate_left
       ·show Act.put _ (some 56) _ = _
        simp only [Act.put, List.setIfInBounds_toArray, List.set_cons_zero, List.set_cons_succ, i64_w, i32_w]
        rfl
       refine two_ (i := 4) (j := 14) (Ni := some 57) (Nj := some 67) #[true, true, true, true, true, true, true, true, true, true, true, true, true, true, false, false, false, false, false, false] #[true, true, true, true, false, true, true, true, true, true, true, true, true, true, true, false, false, false, false, false] rfl rfl rfl rfl (two_of HT_.out (by kernel_rfl)) (by decide) (by decide) (fun K hK => ?_) (fun K hK => ?_)
       ·skip
        refine Kd.R_append_rows_step (Kd.int .i64) (w0 := w) w.heap.size (by rfl) (.tmp 54) (.tmp 56) 22 3 (.int .i64 0) 8 rfl Try.underlying22 info3 rfl (by decide) (by omega) (.slice Ao43 x118002_1.length co43) x118002_1 y136 _ _ _ (fun k_ => some k_ ≠ (.slice (some ad121) t118.length co11 : Value).ownBlock ∧ some k_ ≠ (u118000 : Value).ownBlock ∧ some k_ ≠ (u118001 : Value).ownBlock ∧ some k_ ≠ (.slice Ao44 x118003_1.length co44 : Value).ownBlock ∧ some k_ ≠ (.slice Ao49 y136.length co49 : Value).ownBlock) (fun _ => False) rfl rfl ?aO ?aR (fun _ _ h => h) (fun _ h => h.elim) ?aF ?aB ?aS ?aL ?_
        (case aR => repeat (first | exact (Kd.R_reads' HO138.out).2.2 | (with_reducible refine Kd.C_alloc ?_ _) | (with_reducible refine Kd.C_drewN ?_ _) | (with_reducible refine Kd.C_drew ?_)))
        (case aB => exact (qW HB.out))
        (case aF => exact (fun k_ hk => ⟨Kd.fresh' (Kd.R_lt (qR HO_15.out)) k_ hk, Kd.fresh' (Kd.R_lt (qR HO_118000.out)) k_ hk, Kd.fresh' (Kd.R_lt (qR HO_118001.out)) k_ hk, Kd.fresh' (Kd.R_lt (qR HO_118003.out)) k_ hk, Kd.fresh' (Kd.R_lt (qR HO138.out)) k_ hk⟩))
        (case aO => exact (qR (Kd.R_mono HO_118002.out (fun _ hk => ⟨hk.1.1, ⟨hk.1.2.1, ⟨hk.1.2.2.1, ⟨hk.1.2.2.2, hk.2⟩⟩⟩⟩))))
        (case aS => exact (below_size (qW HB.out)))
        (case aL => have := LMc41.out; omega)
        intro v140 w48 ho hb hg hat
        rw [← Ny139.out] at ho
        have n0_ := Aside0.mk (Kd.R_after (ok := (fun k_ => some k_ ≠ (u118000 : Value).ownBlock ∧ some k_ ≠ (u118001 : Value).ownBlock ∧ some k_ ≠ (.slice Ao44 x118003_1.length co44 : Value).ownBlock ∧ some k_ ≠ (.slice Ao49 y136.length co49 : Value).ownBlock)) (qR (Kd.R_mono HO_15.out (fun _ hk => ⟨⟨hk.1.1, ⟨hk.1.2.1, ⟨hk.1.2.2.2, hk.2⟩⟩⟩, hk.1.2.2.1⟩))) hg hat)
        have n1_ := Aside0.mk (Kd.R_after (ok := (fun k_ => some k_ ≠ (.slice (some ad121) t118.length co11 : Value).ownBlock ∧ some k_ ≠ (u118001 : Value).ownBlock ∧ some k_ ≠ (.slice Ao44 x118003_1.length co44 : Value).ownBlock ∧ some k_ ≠ (.slice Ao49 y136.length co49 : Value).ownBlock)) (qR (Kd.R_mono HO_118000.out (fun _ hk => ⟨⟨hk.1.1, ⟨hk.1.2.1, ⟨hk.1.2.2.2, hk.2⟩⟩⟩, hk.1.2.2.1⟩))) hg hat)
        have n2_ := Aside0.mk (Kd.R_after (ok := (fun k_ => some k_ ≠ (.slice (some ad121) t118.length co11 : Value).ownBlock ∧ some k_ ≠ (u118000 : Value).ownBlock ∧ some k_ ≠ (.slice Ao44 x118003_1.length co44 : Value).ownBlock ∧ some k_ ≠ (.slice Ao49 y136.length co49 : Value).ownBlock)) (qR (Kd.R_mono HO_118001.out (fun _ hk => ⟨⟨hk.1.1, ⟨hk.1.2.1, ⟨hk.1.2.2.2, hk.2⟩⟩⟩, hk.1.2.2.1⟩))) hg hat)
        have n3_ := Aside0.mk (Kd.R_after (ok := (fun k_ => some k_ ≠ (.slice (some ad121) t118.length co11 : Value).ownBlock ∧ some k_ ≠ (u118000 : Value).ownBlock ∧ some k_ ≠ (u118001 : Value).ownBlock ∧ some k_ ≠ (.slice Ao49 y136.length co49 : Value).ownBlock)) (qR (Kd.R_mono HO_118003.out (fun _ hk => ⟨⟨hk.1.1, ⟨hk.1.2.1, ⟨hk.1.2.2.1, hk.2⟩⟩⟩, hk.1.2.2.2⟩))) hg hat)
        have n4_ := Aside0.mk (blk_grown (qB BK115.out) hg (Kd.R_ne HO_118002.out BK115.out (by decide)))
        have n5_ := Aside0.mk (blk_grown (qB BK116.out) hg (Kd.R_ne HO_118002.out BK116.out (by decide)))
        have n6_ := Aside0.mk (blk_grown (qB BK117.out) hg (Kd.R_ne HO_118002.out BK117.out (by decide)))
        have n7_ := Aside0.mk (Kd.R_after (ok := (fun k_ => some k_ ≠ (.slice (some ad121) t118.length co11 : Value).ownBlock ∧ some k_ ≠ (u118000 : Value).ownBlock ∧ some k_ ≠ (u118001 : Value).ownBlock ∧ some k_ ≠ (.slice Ao44 x118003_1.length co44 : Value).ownBlock)) (qR (Kd.R_mono HO138.out (fun _ hk => ⟨⟨hk.1.1.1.1.2, ⟨hk.1.1.1.2, ⟨hk.1.1.2, hk.2⟩⟩⟩, hk.1.2⟩))) hg hat)
        have n8_ := Aside0.mk (hb)
        have n9_ := Aside0.mk (ho)
        clear HO_15 HO_118000 HO_118001 HO_118003 BK115 BK116 BK117 HO138 HB HO_118002
        have HO_15 := n0_
        have HO_118000 := n1_
        have HO_118001 := n2_
        have HO_118003 := n3_
        have BK115 := n4_
        have BK116 := n5_
        have BK117 := n6_
        have HO138 := n7_
        have HB := n8_
        have HO141 := n9_
        clear n0_ n1_ n2_ n3_ n4_ n5_ n6_ n7_ n8_ n9_ ho hb hg hat
        refine hK.out _ _ ⟨(blk_cell BK117.out 0).trans rfl, (blk_cell BK117.out 1).trans rfl, (blk_cell BK117.out 2).trans rfl, (blk_cell BK117.out 3).trans rfl, (blk_cell BK117.out 4).trans rfl, (blk_cell BK115.out 0).trans rfl, (blk_cell BK115.out 1).trans rfl, (blk_cell BK115.out 2).trans rfl, (blk_cell BK115.out 3).trans rfl, (blk_cell BK115.out 4).trans rfl⟩ (fun hHeld => ?_); clear hK K
        refine norm_ (a' := ?_) ?_ ?_; rotate_left
        ·show Act.put _ (some 57) _ = _
         simp only [Act.put, List.setIfInBounds_toArray, List.set_cons_zero, List.set_cons_succ, i64_w, i32_w]
         rfl
        refine pS (i := 16) (N := some 69) #[true, true, true, true, true, true, true, true, true, true, true, true, true, true, false, false, true, false, false, false] rfl rfl HT_.out ?_
        refine one_ (i := 14) (N := some 67) #[true, true, true, true, true, true, true, true, true, true, true, true, true, true, true, false, true, false, false, false] rfl rfl (one_of HT_.out (by kernel_rfl)) (by decide) (fun K hK => ?_)
        refine Kd.R_lit_step (Kd.int .i64) _ 3 ?hg (N := 67) ?hd (xs := ([wrap64 ((wrap64 (t122 + a0_3)) + a0_4)] : List Int)) (inner := [.int .i64 (wrap64 ((wrap64 (t122 + a0_3)) + a0_4))]) (ok := fun _ => True) (okp := fun _ => True) ?hr ?hp (fun _ hk => hk) trivial (Below.refl _ _) (Nat.le_refl _) (by simp) ?_; (case hd => rfl); (case hg => rfl); (case hr => first | (go_simp; done) | (go_simp; rfl)); (case hp => exact (Reps.one (show Kd.M (Kd.int .i64) _ _ _ (wrap64 ((wrap64 (t122 + a0_3)) + a0_4)) [.int .i64 (wrap64 ((wrap64 (t122 + a0_3)) + a0_4))] from rfl) (Reps.none _ _)))
        intro v143 w50 ho51 hb hg_ hnew_
        clear hg_ hnew_
        (first | rw [← Ny142.out] at ho51 | (simp only [Int.reduceToNat] at ho51; rw [← Ny142.out] at ho51))
        have n0_ := Aside0.mk (Kd.R_elder' (qR HO_15.out) (Kd.R_base ho51) hb)
        have n1_ := Aside0.mk (Kd.R_elder' (qR HO_118000.out) (Kd.R_base ho51) hb)
        have n2_ := Aside0.mk (Kd.R_elder' (qR HO_118001.out) (Kd.R_base ho51) hb)
        have n3_ := Aside0.mk (Kd.R_elder' (qR HO_118003.out) (Kd.R_base ho51) hb)
        have n4_ := Aside0.mk (Kd.R_elder' (qR HO138.out) (Kd.R_base ho51) hb)
        have n5_ := Aside0.mk (Kd.R_elder' (qR HO141.out) (Kd.R_base ho51) hb)
        have n6_ := Aside0.mk (Kd.R_lower (Kd.R_new' (Kd.R_new' (Kd.R_new' (Kd.R_new' (Kd.R_new' (Kd.R_new' ho51 (Kd.R_lt (qR HO_15.out))) (Kd.R_lt (qR HO_118000.out))) (Kd.R_lt (qR HO_118001.out))) (Kd.R_lt (qR HO_118003.out))) (Kd.R_lt (qR HO138.out))) (Kd.R_lt (qR HO141.out))) (below_size (qW HB.out)))
        have n7_ := Aside0.mk (blk_below (qB BK115.out) hb)
        have n8_ := Aside0.mk (blk_below (qB BK116.out) hb)
        have n9_ := Aside0.mk (blk_below (qB BK117.out) hb)
        have n10_ := Aside0.mk (below_step (qW HB.out) hb)
        clear HO_15 HO_118000 HO_118001 HO_118003 HO138 HO141 BK115 BK116 BK117 HB
        have HO_15 := n0_
        have HO_118000 := n1_
        have HO_118001 := n2_
        have HO_118003 := n3_
        have HO138 := n4_
        have HO141 := n5_
        have HO144 := n6_
        have BK115 := n7_
        have BK116 := n8_
        have BK117 := n9_
        have HB := n10_
        clear n0_ n1_ n2_ n3_ n4_ n5_ n6_ n7_ n8_ n9_ n10_ hb ho51
        refine hK.out _ _ ⟨(blk_cell BK117.out 0).trans rfl, (blk_cell BK117.out 1).trans rfl, (blk_cell BK117.out 2).trans rfl, (blk_cell BK117.out 3).trans rfl, (blk_cell BK117.out 4).trans rfl, (blk_cell BK115.out 0).trans rfl, (blk_cell BK115.out 1).trans rfl, (blk_cell BK115.out 2).trans rfl, (blk_cell BK115.out 3).trans rfl, (blk_cell BK115.out 4).trans rfl⟩ (fun hHeld => ?_); clear hK K
        refine norm_ (a' := ?_) ?_ ?_; rotate_left
        ·show Act.put _ (some 67) _ = _
         simp only [Act.put, List.setIfInBounds_toArray, List.set_cons_zero, List.set_cons_succ, i64_w, i32_w]
         rfl
        exact norm_ (by simp only [putAll, Act.put, List.setIfInBounds_toArray, List.set_cons_zero, List.set_cons_succ]) (hCont (.slice Ao49 y136.length co49, v140, v143) _ ⟨hHeld, (qR (Kd.R_mono HO138.out (fun _ hk => ⟨hk.1.2, ⟨hk.2, ⟨hk.1.1.2.1, ⟨hk.1.1.2.2.1, ⟨hk.1.1.2.2.2, hk.1.1.1⟩⟩⟩⟩⟩))), (qR (Kd.R_mono HO141.out (fun _ hk => ⟨hk.1.2.2.2.2, ⟨hk.2, ⟨hk.1.2.1, ⟨hk.1.2.2.1, ⟨hk.1.2.2.2.1, hk.1.1⟩⟩⟩⟩⟩))), (qR (Kd.R_mono HO144.out (fun _ hk => ⟨hk.1.2, ⟨hk.2, ⟨hk.1.1.1.1.2, ⟨hk.1.1.1.2, ⟨hk.1.1.2, hk.1.1.1.1.1.2⟩⟩⟩⟩⟩))), (qR (Kd.R_mono HO_118000.out (fun _ hk => ⟨hk.1.1.2.2.2, ⟨hk.1.2, ⟨hk.2, ⟨hk.1.1.2.1, ⟨hk.1.1.2.2.1, hk.1.1.1⟩⟩⟩⟩⟩))), (qR (Kd.R_mono HO_118001.out (fun _ hk => ⟨hk.1.1.2.2.2, ⟨hk.1.2, ⟨hk.2, ⟨hk.1.1.2.1, ⟨hk.1.1.2.2.1, hk.1.1.1⟩⟩⟩⟩⟩))), (qR (Kd.R_mono HO_118003.out (fun _ hk => ⟨hk.1.1.2.2.2, ⟨hk.1.2, ⟨hk.2, ⟨hk.1.1.2.1, ⟨hk.1.1.2.2.1, hk.1.1.1⟩⟩⟩⟩⟩))), (qR (Kd.R_mono HO_15.out (fun _ hk => ⟨hk.1.1.2.2.2, ⟨hk.1.2, ⟨hk.2, ⟨hk.1.1.1, ⟨hk.1.1.2.1, hk.1.1.2.2.1⟩⟩⟩⟩⟩))), (qB BK115.out), (qB BK116.out), (qB BK117.out), (qW HB.out)⟩)
       ·skip
        refine Kd.R_lit_step (Kd.int .i64) _ 3 ?hg (N := 67) ?hd (xs := ([wrap64 ((wrap64 (t122 + a0_3)) + a0_4)] : List Int)) (inner := [.int .i64 (wrap64 ((wrap64 (t122 + a0_3)) + a0_4))]) (ok := fun _ => True) (okp := fun _ => True) ?hr ?hp (fun _ hk => hk) trivial (Below.refl _ _) (Nat.le_refl _) (by simp) ?_; (case hd => rfl); (case hg => rfl); (case hr => first | (go_simp; done) | (go_simp; rfl)); (case hp => exact (Reps.one (show Kd.M (Kd.int .i64) _ _ _ (wrap64 ((wrap64 (t122 + a0_3)) + a0_4)) [.int .i64 (wrap64 ((wrap64 (t122 + a0_3)) + a0_4))] from rfl) (Reps.none _ _)))
        intro v143 w48 ho49 hb hg_ hnew_
        clear hg_ hnew_
        (first | rw [← Ny142.out] at ho49 | (simp only [Int.reduceToNat] at ho49; rw [← Ny142.out] at ho49))
        have n0_ := Aside0.mk (Kd.R_elder' (qR HO_15.out) (Kd.R_base ho49) hb)
        have n1_ := Aside0.mk (Kd.R_elder' (qR HO_118000.out) (Kd.R_base ho49) hb)
        have n2_ := Aside0.mk (Kd.R_elder' (qR HO_118001.out) (Kd.R_base ho49) hb)
        have n3_ := Aside0.mk (Kd.R_elder' (qR HO_118002.out) (Kd.R_base ho49) hb)
        have n4_ := Aside0.mk (Kd.R_elder' (qR HO_118003.out) (Kd.R_base ho49) hb)
        have n5_ := Aside0.mk (Kd.R_elder' (qR HO138.out) (Kd.R_base ho49) hb)
        have n6_ := Aside0.mk (Kd.R_lower (Kd.R_new' (Kd.R_new' (Kd.R_new' (Kd.R_new' (Kd.R_new' (Kd.R_new' ho49 (Kd.R_lt (qR HO_15.out))) (Kd.R_lt (qR HO_118000.out))) (Kd.R_lt (qR HO_118001.out))) (Kd.R_lt (qR HO_118002.out))) (Kd.R_lt (qR HO_118003.out))) (Kd.R_lt (qR HO138.out))) (below_size (qW HB.out)))
        have n7_ := Aside0.mk (blk_below (qB BK115.out) hb)
        have n8_ := Aside0.mk (blk_below (qB BK116.out) hb)
        have n9_ := Aside0.mk (blk_below (qB BK117.out) hb)
        have n10_ := Aside0.mk (below_step (qW HB.out) hb)
        clear HO_15 HO_118000 HO_118001 HO_118002 HO_118003 HO138 BK115 BK116 BK117 HB
        have HO_15 := n0_
        have HO_118000 := n1_
        have HO_118001 := n2_
        have HO_118002 := n3_
        have HO_118003 := n4_
        have HO138 := n5_
        have HO144 := n6_
        have BK115 := n7_
        have BK116 := n8_
        have BK117 := n9_
        have HB := n10_
        clear n0_ n1_ n2_ n3_ n4_ n5_ n6_ n7_ n8_ n9_ n10_ hb ho49
        obtain ⟨Ao51, co51, eo51⟩ := Kd.R_slice HO138.out
        (first | subst eo51 | (injection eo51 with f1_ f2_ f3_; have f4_ := f1_.symm; have f5_ := f3_.symm; clear f1_ f2_ f3_; subst f4_; subst f5_))
        refine hK.out _ _ ⟨(blk_cell BK117.out 0).trans rfl, (blk_cell BK117.out 1).trans rfl, (blk_cell BK117.out 2).trans rfl, (blk_cell BK117.out 3).trans rfl, (blk_cell BK117.out 4).trans rfl, (blk_cell BK115.out 0).trans rfl, (blk_cell BK115.out 1).trans rfl, (blk_cell BK115.out 2).trans rfl, (blk_cell BK115.out 3).trans rfl, (blk_cell BK115.out 4).trans rfl⟩ (fun hHeld => ?_); clear hK K
        refine norm_ (a' := ?_) ?_ ?_; rotate_left
        ·show Act.put _ (some 67) _ = _
         simp only [Act.put, List.setIfInBounds_toArray, List.set_cons_zero, List.set_cons_succ, i64_w, i32_w]
         rfl
        refine one_ (i := 4) (N := some 57) #[true, true, true, true, true, true, true, true, true, true, true, true, true, true, true, false, false, false, false, false] rfl rfl (one_of HT_.out (by kernel_rfl)) (by decide) (fun K hK => ?_)
        refine Kd.R_append_rows_step (Kd.int .i64) (w0 := w) w.heap.size (by rfl) (.tmp 54) (.tmp 56) 22 3 (.int .i64 0) 8 rfl Try.underlying22 info3 rfl (by decide) (by omega) (.slice Ao43 x118002_1.length co43) x118002_1 y136 _ _ _ (fun k_ => some k_ ≠ (.slice (some ad121) t118.length co11 : Value).ownBlock ∧ some k_ ≠ (u118000 : Value).ownBlock ∧ some k_ ≠ (u118001 : Value).ownBlock ∧ some k_ ≠ (.slice Ao44 x118003_1.length co44 : Value).ownBlock ∧ some k_ ≠ (.slice Ao51 y136.length co51 : Value).ownBlock ∧ some k_ ≠ (v143 : Value).ownBlock) (fun _ => False) rfl rfl ?aO ?aR (fun _ _ h => h) (fun _ h => h.elim) ?aF ?aB ?aS ?aL ?_
        (case aR => repeat (first | exact (Kd.R_reads' HO138.out).2.2 | (with_reducible refine Kd.C_alloc ?_ _) | (with_reducible refine Kd.C_drewN ?_ _) | (with_reducible refine Kd.C_drew ?_)))
        (case aB => exact (qW HB.out))
        (case aF => exact (fun k_ hk => ⟨Kd.fresh' (Kd.R_lt (qR HO_15.out)) k_ hk, Kd.fresh' (Kd.R_lt (qR HO_118000.out)) k_ hk, Kd.fresh' (Kd.R_lt (qR HO_118001.out)) k_ hk, Kd.fresh' (Kd.R_lt (qR HO_118003.out)) k_ hk, Kd.fresh' (Kd.R_lt (qR HO138.out)) k_ hk, Kd.fresh' (Kd.R_lt (qR HO144.out)) k_ hk⟩))
        (case aO => exact (qR (Kd.R_mono HO_118002.out (fun _ hk => ⟨hk.1.1.1, ⟨hk.1.1.2.1, ⟨hk.1.1.2.2.1, ⟨hk.1.1.2.2.2, ⟨hk.1.2, hk.2⟩⟩⟩⟩⟩))))
        (case aS => exact (below_size (qW HB.out)))
        (case aL => have := LMc41.out; omega)
        intro v140 w50 ho hb hg hat
        rw [← Ny139.out] at ho
        have n0_ := Aside0.mk (Kd.R_after (ok := (fun k_ => some k_ ≠ (u118000 : Value).ownBlock ∧ some k_ ≠ (u118001 : Value).ownBlock ∧ some k_ ≠ (.slice Ao44 x118003_1.length co44 : Value).ownBlock ∧ some k_ ≠ (.slice Ao51 y136.length co51 : Value).ownBlock ∧ some k_ ≠ (v143 : Value).ownBlock)) (qR (Kd.R_mono HO_15.out (fun _ hk => ⟨⟨hk.1.1.1, ⟨hk.1.1.2.1, ⟨hk.1.1.2.2.2, ⟨hk.1.2, hk.2⟩⟩⟩⟩, hk.1.1.2.2.1⟩))) hg hat)
        have n1_ := Aside0.mk (Kd.R_after (ok := (fun k_ => some k_ ≠ (.slice (some ad121) t118.length co11 : Value).ownBlock ∧ some k_ ≠ (u118001 : Value).ownBlock ∧ some k_ ≠ (.slice Ao44 x118003_1.length co44 : Value).ownBlock ∧ some k_ ≠ (.slice Ao51 y136.length co51 : Value).ownBlock ∧ some k_ ≠ (v143 : Value).ownBlock)) (qR (Kd.R_mono HO_118000.out (fun _ hk => ⟨⟨hk.1.1.1, ⟨hk.1.1.2.1, ⟨hk.1.1.2.2.2, ⟨hk.1.2, hk.2⟩⟩⟩⟩, hk.1.1.2.2.1⟩))) hg hat)
        have n2_ := Aside0.mk (Kd.R_after (ok := (fun k_ => some k_ ≠ (.slice (some ad121) t118.length co11 : Value).ownBlock ∧ some k_ ≠ (u118000 : Value).ownBlock ∧ some k_ ≠ (.slice Ao44 x118003_1.length co44 : Value).ownBlock ∧ some k_ ≠ (.slice Ao51 y136.length co51 : Value).ownBlock ∧ some k_ ≠ (v143 : Value).ownBlock)) (qR (Kd.R_mono HO_118001.out (fun _ hk => ⟨⟨hk.1.1.1, ⟨hk.1.1.2.1, ⟨hk.1.1.2.2.2, ⟨hk.1.2, hk.2⟩⟩⟩⟩, hk.1.1.2.2.1⟩))) hg hat)
        have n3_ := Aside0.mk (Kd.R_after (ok := (fun k_ => some k_ ≠ (.slice (some ad121) t118.length co11 : Value).ownBlock ∧ some k_ ≠ (u118000 : Value).ownBlock ∧ some k_ ≠ (u118001 : Value).ownBlock ∧ some k_ ≠ (.slice Ao51 y136.length co51 : Value).ownBlock ∧ some k_ ≠ (v143 : Value).ownBlock)) (qR (Kd.R_mono HO_118003.out (fun _ hk => ⟨⟨hk.1.1.1, ⟨hk.1.1.2.1, ⟨hk.1.1.2.2.1, ⟨hk.1.2, hk.2⟩⟩⟩⟩, hk.1.1.2.2.2⟩))) hg hat)
        have n4_ := Aside0.mk (blk_grown (qB BK115.out) hg (Kd.R_ne HO_118002.out BK115.out (by decide)))
        have n5_ := Aside0.mk (blk_grown (qB BK116.out) hg (Kd.R_ne HO_118002.out BK116.out (by decide)))
        have n6_ := Aside0.mk (blk_grown (qB BK117.out) hg (Kd.R_ne HO_118002.out BK117.out (by decide)))
        have n7_ := Aside0.mk (Kd.R_after (ok := (fun k_ => some k_ ≠ (.slice (some ad121) t118.length co11 : Value).ownBlock ∧ some k_ ≠ (u118000 : Value).ownBlock ∧ some k_ ≠ (u118001 : Value).ownBlock ∧ some k_ ≠ (.slice Ao44 x118003_1.length co44 : Value).ownBlock ∧ some k_ ≠ (v143 : Value).ownBlock)) (qR (Kd.R_mono HO138.out (fun _ hk => ⟨⟨hk.1.1.1.1.1.2, ⟨hk.1.1.1.1.2, ⟨hk.1.1.1.2, ⟨hk.1.2, hk.2⟩⟩⟩⟩, hk.1.1.2⟩))) hg hat)
        have n8_ := Aside0.mk (Kd.R_after (ok := (fun k_ => some k_ ≠ (.slice (some ad121) t118.length co11 : Value).ownBlock ∧ some k_ ≠ (u118000 : Value).ownBlock ∧ some k_ ≠ (u118001 : Value).ownBlock ∧ some k_ ≠ (.slice Ao44 x118003_1.length co44 : Value).ownBlock ∧ some k_ ≠ (.slice Ao51 y136.length co51 : Value).ownBlock)) (qR (Kd.R_mono HO144.out (fun _ hk => ⟨⟨hk.1.1.1.1.1.2, ⟨hk.1.1.1.1.2, ⟨hk.1.1.1.2, ⟨hk.1.2, hk.2⟩⟩⟩⟩, hk.1.1.2⟩))) hg hat)
        have n9_ := Aside0.mk (hb)
        have n10_ := Aside0.mk (ho)
        clear HO_15 HO_118000 HO_118001 HO_118003 BK115 BK116 BK117 HO138 HO144 HB HO_118002
        have HO_15 := n0_
        have HO_118000 := n1_
        have HO_118001 := n2_
        have HO_118003 := n3_
        have BK115 := n4_
        have BK116 := n5_
        have BK117 := n6_
        have HO138 := n7_
        have HO144 := n8_
        have HB := n9_
        have HO141 := n10_
        clear n0_ n1_ n2_ n3_ n4_ n5_ n6_ n7_ n8_ n9_ n10_ ho hb hg hat
        refine hK.out _ _ ⟨(blk_cell BK117.out 0).trans rfl, (blk_cell BK117.out 1).trans rfl, (blk_cell BK117.out 2).trans rfl, (blk_cell BK117.out 3).trans rfl, (blk_cell BK117.out 4).trans rfl, (blk_cell BK115.out 0).trans rfl, (blk_cell BK115.out 1).trans rfl, (blk_cell BK115.out 2).trans rfl, (blk_cell BK115.out 3).trans rfl, (blk_cell BK115.out 4).trans rfl⟩ (fun hHeld => ?_); clear hK K
        refine norm_ (a' := ?_) ?_ ?_; rotate_left
        ·show Act.put _ (some 57) _ = _
         simp only [Act.put, List.setIfInBounds_toArray, List.set_cons_zero, List.set_cons_succ, i64_w, i32_w]
         rfl
        refine pS (i := 16) (N := some 69) #[true, true, true, true, true, true, true, true, true, true, true, true, true, true, true, false, true, false, false, false] rfl rfl HT_.out ?_
        exact norm_ (by simp only [putAll, Act.put, List.setIfInBounds_toArray, List.set_cons_zero, List.set_cons_succ]) (hCont (.slice Ao51 y136.length co51, v140, v143) _ ⟨hHeld, (qR (Kd.R_mono HO138.out (fun _ hk => ⟨hk.2, ⟨hk.1.2.2.2.2, ⟨hk.1.2.1, ⟨hk.1.2.2.1, ⟨hk.1.2.2.2.1, hk.1.1⟩⟩⟩⟩⟩))), (qR (Kd.R_mono HO141.out (fun _ hk => ⟨hk.2.2.2.2.1, ⟨hk.2.2.2.2.2, ⟨hk.2.1, ⟨hk.2.2.1, ⟨hk.2.2.2.1, hk.1⟩⟩⟩⟩⟩))), (qR (Kd.R_mono HO144.out (fun _ hk => ⟨hk.1.2.2.2.2, ⟨hk.2, ⟨hk.1.2.1, ⟨hk.1.2.2.1, ⟨hk.1.2.2.2.1, hk.1.1⟩⟩⟩⟩⟩))), (qR (Kd.R_mono HO_118000.out (fun _ hk => ⟨hk.1.2.2.2.1, ⟨hk.2, ⟨hk.1.2.2.2.2, ⟨hk.1.2.1, ⟨hk.1.2.2.1, hk.1.1⟩⟩⟩⟩⟩))), (qR (Kd.R_mono HO_118001.out (fun _ hk => ⟨hk.1.2.2.2.1, ⟨hk.2, ⟨hk.1.2.2.2.2, ⟨hk.1.2.1, ⟨hk.1.2.2.1, hk.1.1⟩⟩⟩⟩⟩))), (qR (Kd.R_mono HO_118003.out (fun _ hk => ⟨hk.1.2.2.2.1, ⟨hk.2, ⟨hk.1.2.2.2.2, ⟨hk.1.2.1, ⟨hk.1.2.2.1, hk.1.1⟩⟩⟩⟩⟩))), (qR (Kd.R_mono HO_15.out (fun _ hk => ⟨hk.1.2.2.2.1, ⟨hk.2, ⟨hk.1.2.2.2.2, ⟨hk.1.1, ⟨hk.1.2.1, hk.1.2.2.1⟩⟩⟩⟩⟩))), (qB BK115.out), (qB BK116.out), (qB BK117.out), (qW HB.out)⟩)
      ·skip
       refine Kd.R_lit_step (Kd.int .i64) _ 3 ?hg (N := 67) ?hd (xs := ([wrap64 ((wrap64 (t122 + a0_3)) + a0_4)] : List Int)) (inner := [.int .i64 (wrap64 ((wrap64 (t122 + a0_3)) + a0_4))]) (ok := fun _ => True) (okp := fun _ => True) ?hr ?hp (fun _ hk => hk) trivial (Below.refl _ _) (Nat.le_refl _) (by simp) ?_; (case hd => rfl); (case hg => rfl); (case hr => first | (go_simp; done) | (go_simp; rfl)); (case hp => exact (Reps.one (show Kd.M (Kd.int .i64) _ _ _ (wrap64 ((wrap64 (t122 + a0_3)) + a0_4)) [.int .i64 (wrap64 ((wrap64 (t122 + a0_3)) + a0_4))] from rfl) (Reps.none _ _)))
       intro v143 w46 ho47 hb hg_ hnew_
       clear hg_ hnew_
       (first | rw [← Ny142.out] at ho47 | (simp only [Int.reduceToNat] at ho47; rw [← Ny142.out] at ho47))
       have n0_ := Aside0.mk (Kd.R_elder' (qR HO_15.out) (Kd.R_base ho47) hb)
       have n1_ := Aside0.mk (Kd.R_elder' (qR HO_118000.out) (Kd.R_base ho47) hb)
       have n2_ := Aside0.mk (Kd.R_elder' (qR HO_118001.out) (Kd.R_base ho47) hb)
       have n3_ := Aside0.mk (Kd.R_elder' (qR HO_118002.out) (Kd.R_base ho47) hb)
       have n4_ := Aside0.mk (Kd.R_elder' (qR HO_118003.out) (Kd.R_base ho47) hb)
       have n5_ := Aside0.mk (Kd.R_lower (Kd.R_new' (Kd.R_new' (Kd.R_new' (Kd.R_new' (Kd.R_new' ho47 (Kd.R_lt (qR HO_15.out))) (Kd.R_lt (qR HO_118000.out))) (Kd.R_lt (qR HO_118001.out))) (Kd.R_lt (qR HO_118002.out))) (Kd.R_lt (qR HO_118003.out))) (below_size (qW HB.out)))
       have n6_ := Aside0.mk (blk_below (qB BK115.out) hb)
       have n7_ := Aside0.mk (blk_below (qB BK116.out) hb)
       have n8_ := Aside0.mk (blk_below (qB BK117.out) hb)
       have n9_ := Aside0.mk (below_step (qW HB.out) hb)
       clear HO_15 HO_118000 HO_118001 HO_118002 HO_118003 BK115 BK116 BK117 HB
       have HO_15 := n0_
       have HO_118000 := n1_
       have HO_118001 := n2_
       have HO_118002 := n3_
       have HO_118003 := n4_
       have HO144 := n5_
       have BK115 := n6_
       have BK116 := n7_
       have BK117 := n8_
       have HB := n9_
       clear n0_ n1_ n2_ n3_ n4_ n5_ n6_ n7_ n8_ n9_ hb ho47
       refine hK.out _ _ ⟨(blk_cell BK117.out 0).trans rfl, (blk_cell BK117.out 1).trans rfl, (blk_cell BK117.out 2).trans rfl, (blk_cell BK117.out 3).trans rfl, (blk_cell BK117.out 4).trans rfl, (blk_cell BK115.out 0).trans rfl, (blk_cell BK115.out 1).trans rfl, (blk_cell BK115.out 2).trans rfl, (blk_cell BK115.out 3).trans rfl, (blk_cell BK115.out 4).trans rfl⟩ (fun hHeld => ?_); clear hK K
       refine norm_ (a' := ?_) ?_ ?_; rotate_left
       ·show Act.put _ (some 67) _ = _
        simp only [Act.put, List.setIfInBounds_toArray, List.set_cons_zero, List.set_cons_succ, i64_w, i32_w]
        rfl
       refine one_ (i := 3) (N := some 56) #[true, true, true, true, false, true, true, true, true, true, true, true, true, true, true, false, false, false, false, false] rfl rfl (one_of HT_.out (by kernel_rfl)) (by decide) (fun K hK => ?_)
       refine Kd.R_lit_step (Kd.int .i64) _ 3 ?hg (N := 56) ?hd (xs := ([t122] : List Int)) (inner := [.int .i64 t122]) (ok := fun _ => True) (okp := fun _ => True) ?hr ?hp (fun _ hk => hk) trivial (Below.refl _ _) (Nat.le_refl _) (by simp) ?_; (case hd => rfl); (case hg => rfl); (case hr => first | (go_simp; done) | (go_simp; rfl)); (case hp => exact (Reps.one (show Kd.M (Kd.int .i64) _ _ _ t122 [.int .i64 t122] from rfl) (Reps.none _ _)))
       intro v137 w48 ho49 hb hg_ hnew_
       clear hg_ hnew_
       (first | rw [← Ny136.out] at ho49 | (simp only [Int.reduceToNat] at ho49; rw [← Ny136.out] at ho49))
       have n0_ := Aside0.mk (Kd.R_elder' (qR HO_15.out) (Kd.R_base ho49) hb)
       have n1_ := Aside0.mk (Kd.R_elder' (qR HO_118000.out) (Kd.R_base ho49) hb)
       have n2_ := Aside0.mk (Kd.R_elder' (qR HO_118001.out) (Kd.R_base ho49) hb)
       have n3_ := Aside0.mk (Kd.R_elder' (qR HO_118002.out) (Kd.R_base ho49) hb)
       have n4_ := Aside0.mk (Kd.R_elder' (qR HO_118003.out) (Kd.R_base ho49) hb)
       have n5_ := Aside0.mk (Kd.R_elder' (qR HO144.out) (Kd.R_base ho49) hb)
       have n6_ := Aside0.mk (Kd.R_lower (Kd.R_new' (Kd.R_new' (Kd.R_new' (Kd.R_new' (Kd.R_new' (Kd.R_new' ho49 (Kd.R_lt (qR HO_15.out))) (Kd.R_lt (qR HO_118000.out))) (Kd.R_lt (qR HO_118001.out))) (Kd.R_lt (qR HO_118002.out))) (Kd.R_lt (qR HO_118003.out))) (Kd.R_lt (qR HO144.out))) (below_size (qW HB.out)))
       have n7_ := Aside0.mk (blk_below (qB BK115.out) hb)
       have n8_ := Aside0.mk (blk_below (qB BK116.out) hb)
       have n9_ := Aside0.mk (blk_below (qB BK117.out) hb)
       have n10_ := Aside0.mk (below_step (qW HB.out) hb)
       clear HO_15 HO_118000 HO_118001 HO_118002 HO_118003 HO144 BK115 BK116 BK117 HB
       have HO_15 := n0_
       have HO_118000 := n1_
       have HO_118001 := n2_
       have HO_118002 := n3_
       have HO_118003 := n4_
       have HO144 := n5_
       have HO138 := n6_
       have BK115 := n7_
       have BK116 := n8_
       have BK117 := n9_
       have HB := n10_
       clear n0_ n1_ n2_ n3_ n4_ n5_ n6_ n7_ n8_ n9_ n10_ hb ho49
       obtain ⟨Ao51, co51, eo51⟩ := Kd.R_slice HO138.out
       (first | subst eo51 | (injection eo51 with f1_ f2_ f3_; have f4_ := f1_.symm; have f5_ := f3_.symm; clear f1_ f2_ f3_; subst f4_; subst f5_))
       refine hK.out _ _ ⟨(blk_cell BK117.out 0).trans rfl, (blk_cell BK117.out 1).trans rfl, (blk_cell BK117.out 2).trans rfl, (blk_cell BK117.out 3).trans rfl, (blk_cell BK117.out 4).trans rfl, (blk_cell BK115.out 0).trans rfl, (blk_cell BK115.out 1).trans rfl, (blk_cell BK115.out 2).trans rfl, (blk_cell BK115.out 3).trans rfl, (blk_cell BK115.out 4).trans rfl⟩ (fun hHeld => ?_); clear hK K
       refine norm_ (a' := ?_) ?_ ?_; rotate_left
       ·show Act.put _ (some 56) _ = _
        simp only [Act.put, List.setIfInBounds_toArray, List.set_cons_zero, List.set_cons_succ, i64_w, i32_w]
        rfl
       refine one_ (i := 4) (N := some 57) #[true, true, true, true, true, true, true, true, true, true, true, true, true, true, true, false, false, false, false, false] rfl rfl (one_of HT_.out (by kernel_rfl)) (by decide) (fun K hK => ?_)
       refine Kd.R_append_rows_step (Kd.int .i64) (w0 := w) w.heap.size (by rfl) (.tmp 54) (.tmp 56) 22 3 (.int .i64 0) 8 rfl Try.underlying22 info3 rfl (by decide) (by omega) (.slice Ao43 x118002_1.length co43) x118002_1 y136 _ _ _ (fun k_ => some k_ ≠ (.slice (some ad121) t118.length co11 : Value).ownBlock ∧ some k_ ≠ (u118000 : Value).ownBlock ∧ some k_ ≠ (u118001 : Value).ownBlock ∧ some k_ ≠ (.slice Ao44 x118003_1.length co44 : Value).ownBlock ∧ some k_ ≠ (v143 : Value).ownBlock ∧ some k_ ≠ (.slice Ao51 y136.length co51 : Value).ownBlock) (fun _ => False) rfl rfl ?aO ?aR (fun _ _ h => h) (fun _ h => h.elim) ?aF ?aB ?aS ?aL ?_
       (case aR => repeat (first | exact (Kd.R_reads' HO138.out).2.2 | (with_reducible refine Kd.C_alloc ?_ _) | (with_reducible refine Kd.C_drewN ?_ _) | (with_reducible refine Kd.C_drew ?_)))
       (case aB => exact (qW HB.out))
       (case aF => exact (fun k_ hk => ⟨Kd.fresh' (Kd.R_lt (qR HO_15.out)) k_ hk, Kd.fresh' (Kd.R_lt (qR HO_118000.out)) k_ hk, Kd.fresh' (Kd.R_lt (qR HO_118001.out)) k_ hk, Kd.fresh' (Kd.R_lt (qR HO_118003.out)) k_ hk, Kd.fresh' (Kd.R_lt (qR HO144.out)) k_ hk, Kd.fresh' (Kd.R_lt (qR HO138.out)) k_ hk⟩))
       (case aO => exact (qR (Kd.R_mono HO_118002.out (fun _ hk => ⟨hk.1.1.1, ⟨hk.1.1.2.1, ⟨hk.1.1.2.2.1, ⟨hk.1.1.2.2.2, ⟨hk.1.2, hk.2⟩⟩⟩⟩⟩))))
       (case aS => exact (below_size (qW HB.out)))
       (case aL => have := LMc41.out; omega)
       intro v140 w50 ho hb hg hat
       rw [← Ny139.out] at ho
       have n0_ := Aside0.mk (Kd.R_after (ok := (fun k_ => some k_ ≠ (u118000 : Value).ownBlock ∧ some k_ ≠ (u118001 : Value).ownBlock ∧ some k_ ≠ (.slice Ao44 x118003_1.length co44 : Value).ownBlock ∧ some k_ ≠ (v143 : Value).ownBlock ∧ some k_ ≠ (.slice Ao51 y136.length co51 : Value).ownBlock)) (qR (Kd.R_mono HO_15.out (fun _ hk => ⟨⟨hk.1.1.1, ⟨hk.1.1.2.1, ⟨hk.1.1.2.2.2, ⟨hk.1.2, hk.2⟩⟩⟩⟩, hk.1.1.2.2.1⟩))) hg hat)
       have n1_ := Aside0.mk (Kd.R_after (ok := (fun k_ => some k_ ≠ (.slice (some ad121) t118.length co11 : Value).ownBlock ∧ some k_ ≠ (u118001 : Value).ownBlock ∧ some k_ ≠ (.slice Ao44 x118003_1.length co44 : Value).ownBlock ∧ some k_ ≠ (v143 : Value).ownBlock ∧ some k_ ≠ (.slice Ao51 y136.length co51 : Value).ownBlock)) (qR (Kd.R_mono HO_118000.out (fun _ hk => ⟨⟨hk.1.1.1, ⟨hk.1.1.2.1, ⟨hk.1.1.2.2.2, ⟨hk.1.2, hk.2⟩⟩⟩⟩, hk.1.1.2.2.1⟩))) hg hat)
       have n2_ := Aside0.mk (Kd.R_after (ok := (fun k_ => some k_ ≠ (.slice (some ad121) t118.length co11 : Value).ownBlock ∧ some k_ ≠ (u118000 : Value).ownBlock ∧ some k_ ≠ (.slice Ao44 x118003_1.length co44 : Value).ownBlock ∧ some k_ ≠ (v143 : Value).ownBlock ∧ some k_ ≠ (.slice Ao51 y136.length co51 : Value).ownBlock)) (qR (Kd.R_mono HO_118001.out (fun _ hk => ⟨⟨hk.1.1.1, ⟨hk.1.1.2.1, ⟨hk.1.1.2.2.2, ⟨hk.1.2, hk.2⟩⟩⟩⟩, hk.1.1.2.2.1⟩))) hg hat)
       have n3_ := Aside0.mk (Kd.R_after (ok := (fun k_ => some k_ ≠ (.slice (some ad121) t118.length co11 : Value).ownBlock ∧ some k_ ≠ (u118000 : Value).ownBlock ∧ some k_ ≠ (u118001 : Value).ownBlock ∧ some k_ ≠ (v143 : Value).ownBlock ∧ some k_ ≠ (.slice Ao51 y136.length co51 : Value).ownBlock)) (qR (Kd.R_mono HO_118003.out (fun _ hk => ⟨⟨hk.1.1.1, ⟨hk.1.1.2.1, ⟨hk.1.1.2.2.1, ⟨hk.1.2, hk.2⟩⟩⟩⟩, hk.1.1.2.2.2⟩))) hg hat)
       have n4_ := Aside0.mk (blk_grown (qB BK115.out) hg (Kd.R_ne HO_118002.out BK115.out (by decide)))
       have n5_ := Aside0.mk (blk_grown (qB BK116.out) hg (Kd.R_ne HO_118002.out BK116.out (by decide)))
       have n6_ := Aside0.mk (blk_grown (qB BK117.out) hg (Kd.R_ne HO_118002.out BK117.out (by decide)))
       have n7_ := Aside0.mk (Kd.R_after (ok := (fun k_ => some k_ ≠ (.slice (some ad121) t118.length co11 : Value).ownBlock ∧ some k_ ≠ (u118000 : Value).ownBlock ∧ some k_ ≠ (u118001 : Value).ownBlock ∧ some k_ ≠ (.slice Ao44 x118003_1.length co44 : Value).ownBlock ∧ some k_ ≠ (.slice Ao51 y136.length co51 : Value).ownBlock)) (qR (Kd.R_mono HO144.out (fun _ hk => ⟨⟨hk.1.1.1.1.1.2, ⟨hk.1.1.1.1.2, ⟨hk.1.1.1.2, ⟨hk.1.2, hk.2⟩⟩⟩⟩, hk.1.1.2⟩))) hg hat)
       have n8_ := Aside0.mk (Kd.R_after (ok := (fun k_ => some k_ ≠ (.slice (some ad121) t118.length co11 : Value).ownBlock ∧ some k_ ≠ (u118000 : Value).ownBlock ∧ some k_ ≠ (u118001 : Value).ownBlock ∧ some k_ ≠ (.slice Ao44 x118003_1.length co44 : Value).ownBlock ∧ some k_ ≠ (v143 : Value).ownBlock)) (qR (Kd.R_mono HO138.out (fun _ hk => ⟨⟨hk.1.1.1.1.1.2, ⟨hk.1.1.1.1.2, ⟨hk.1.1.1.2, ⟨hk.1.2, hk.2⟩⟩⟩⟩, hk.1.1.2⟩))) hg hat)
       have n9_ := Aside0.mk (hb)
       have n10_ := Aside0.mk (ho)
       clear HO_15 HO_118000 HO_118001 HO_118003 BK115 BK116 BK117 HO144 HO138 HB HO_118002
       have HO_15 := n0_
       have HO_118000 := n1_
       have HO_118001 := n2_
       have HO_118003 := n3_
       have BK115 := n4_
       have BK116 := n5_
       have BK117 := n6_
       have HO144 := n7_
       have HO138 := n8_
       have HB := n9_
       have HO141 := n10_
       clear n0_ n1_ n2_ n3_ n4_ n5_ n6_ n7_ n8_ n9_ n10_ ho hb hg hat
       refine hK.out _ _ ⟨(blk_cell BK117.out 0).trans rfl, (blk_cell BK117.out 1).trans rfl, (blk_cell BK117.out 2).trans rfl, (blk_cell BK117.out 3).trans rfl, (blk_cell BK117.out 4).trans rfl, (blk_cell BK115.out 0).trans rfl, (blk_cell BK115.out 1).trans rfl, (blk_cell BK115.out 2).trans rfl, (blk_cell BK115.out 3).trans rfl, (blk_cell BK115.out 4).trans rfl⟩ (fun hHeld => ?_); clear hK K
       refine norm_ (a' := ?_) ?_ ?_; rotate_left
       ·show Act.put _ (some 57) _ = _
        simp only [Act.put, List.setIfInBounds_toArray, List.set_cons_zero, List.set_cons_succ, i64_w, i32_w]
        rfl
       refine pS (i := 16) (N := some 69) #[true, true, true, true, true, true, true, true, true, true, true, true, true, true, true, false, true, false, false, false] rfl rfl HT_.out ?_
       exact norm_ (by simp only [putAll, Act.put, List.setIfInBounds_toArray, List.set_cons_zero, List.set_cons_succ]) (hCont (.slice Ao51 y136.length co51, v140, v143) _ ⟨hHeld, (qR (Kd.R_mono HO138.out (fun _ hk => ⟨hk.2, ⟨hk.1.2.2.2.2, ⟨hk.1.2.1, ⟨hk.1.2.2.1, ⟨hk.1.2.2.2.1, hk.1.1⟩⟩⟩⟩⟩))), (qR (Kd.R_mono HO141.out (fun _ hk => ⟨hk.2.2.2.2.2, ⟨hk.2.2.2.2.1, ⟨hk.2.1, ⟨hk.2.2.1, ⟨hk.2.2.2.1, hk.1⟩⟩⟩⟩⟩))), (qR (Kd.R_mono HO144.out (fun _ hk => ⟨hk.1.2.2.2.2, ⟨hk.2, ⟨hk.1.2.1, ⟨hk.1.2.2.1, ⟨hk.1.2.2.2.1, hk.1.1⟩⟩⟩⟩⟩))), (qR (Kd.R_mono HO_118000.out (fun _ hk => ⟨hk.1.2.2.2.2, ⟨hk.2, ⟨hk.1.2.2.2.1, ⟨hk.1.2.1, ⟨hk.1.2.2.1, hk.1.1⟩⟩⟩⟩⟩))), (qR (Kd.R_mono HO_118001.out (fun _ hk => ⟨hk.1.2.2.2.2, ⟨hk.2, ⟨hk.1.2.2.2.1, ⟨hk.1.2.1, ⟨hk.1.2.2.1, hk.1.1⟩⟩⟩⟩⟩))), (qR (Kd.R_mono HO_118003.out (fun _ hk => ⟨hk.1.2.2.2.2, ⟨hk.2, ⟨hk.1.2.2.2.1, ⟨hk.1.2.1, ⟨hk.1.2.2.1, hk.1.1⟩⟩⟩⟩⟩))), (qR (Kd.R_mono HO_15.out (fun _ hk => ⟨hk.1.2.2.2.2, ⟨hk.2, ⟨hk.1.2.2.2.1, ⟨hk.1.1, ⟨hk.1.2.1, hk.1.2.2.1⟩⟩⟩⟩⟩))), (qB BK115.out), (qB BK116.out), (qB BK117.out), (qW HB.out)⟩)
     rintro ⟨v137, v140, v143⟩ w52 ⟨hS_, h0_, h1_, h2_, h3_, h4_, h5_, h6_, h7_, h8_, h9_, h10_⟩
     have n0_ : Aside0 (Kd.R (Kd.int .i64) 3 w52 w.heap.size (fun k_ => some k_ ≠ (v140 : Value).ownBlock ∧ some k_ ≠ (v143 : Value).ownBlock ∧ some k_ ≠ (u118000 : Value).ownBlock ∧ some k_ ≠ (u118001 : Value).ownBlock ∧ some k_ ≠ (.slice Ao44 x118003_1.length co44 : Value).ownBlock ∧ some k_ ≠ (.slice (some ad121) t118.length co11 : Value).ownBlock) v137 y136) := ⟨h0_⟩
     have n1_ : Aside0 (Kd.R (Kd.int .i64) 3 w52 w.heap.size (fun k_ => some k_ ≠ (v137 : Value).ownBlock ∧ some k_ ≠ (v143 : Value).ownBlock ∧ some k_ ≠ (u118000 : Value).ownBlock ∧ some k_ ≠ (u118001 : Value).ownBlock ∧ some k_ ≠ (.slice Ao44 x118003_1.length co44 : Value).ownBlock ∧ some k_ ≠ (.slice (some ad121) t118.length co11 : Value).ownBlock) v140 y139) := ⟨h1_⟩
     have n2_ : Aside0 (Kd.R (Kd.int .i64) 3 w52 w.heap.size (fun k_ => some k_ ≠ (v137 : Value).ownBlock ∧ some k_ ≠ (v140 : Value).ownBlock ∧ some k_ ≠ (u118000 : Value).ownBlock ∧ some k_ ≠ (u118001 : Value).ownBlock ∧ some k_ ≠ (.slice Ao44 x118003_1.length co44 : Value).ownBlock ∧ some k_ ≠ (.slice (some ad121) t118.length co11 : Value).ownBlock) v143 y142) := ⟨h2_⟩
     have n3_ : Aside0 (Kd.R (Kd.int .i64) 3 w52 w.heap.size (fun k_ => some k_ ≠ (v137 : Value).ownBlock ∧ some k_ ≠ (v140 : Value).ownBlock ∧ some k_ ≠ (v143 : Value).ownBlock ∧ some k_ ≠ (u118001 : Value).ownBlock ∧ some k_ ≠ (.slice Ao44 x118003_1.length co44 : Value).ownBlock ∧ some k_ ≠ (.slice (some ad121) t118.length co11 : Value).ownBlock) u118000 x118000_17) := ⟨h3_⟩
     have n4_ : Aside0 (Kd.R (Kd.int .i64) 3 w52 w.heap.size (fun k_ => some k_ ≠ (v137 : Value).ownBlock ∧ some k_ ≠ (v140 : Value).ownBlock ∧ some k_ ≠ (v143 : Value).ownBlock ∧ some k_ ≠ (u118000 : Value).ownBlock ∧ some k_ ≠ (.slice Ao44 x118003_1.length co44 : Value).ownBlock ∧ some k_ ≠ (.slice (some ad121) t118.length co11 : Value).ownBlock) u118001 x118001_17) := ⟨h4_⟩
     have n5_ : Aside0 (Kd.R (Kd.int .i64) 3 w52 w.heap.size (fun k_ => some k_ ≠ (v137 : Value).ownBlock ∧ some k_ ≠ (v140 : Value).ownBlock ∧ some k_ ≠ (v143 : Value).ownBlock ∧ some k_ ≠ (u118000 : Value).ownBlock ∧ some k_ ≠ (u118001 : Value).ownBlock ∧ some k_ ≠ (.slice (some ad121) t118.length co11 : Value).ownBlock) (.slice Ao44 x118003_1.length co44) x118003_1) := ⟨h5_⟩
     have n6_ : Aside0 (Kd.R (Kd.int .i64) 3 w52 w.heap.size (fun k_ => some k_ ≠ (v137 : Value).ownBlock ∧ some k_ ≠ (v140 : Value).ownBlock ∧ some k_ ≠ (v143 : Value).ownBlock ∧ some k_ ≠ (u118000 : Value).ownBlock ∧ some k_ ≠ (u118001 : Value).ownBlock ∧ some k_ ≠ (.slice Ao44 x118003_1.length co44 : Value).ownBlock) (.slice (some ad121) t118.length co11) t118) := ⟨h6_⟩
     have n7_ : Aside0 (w52.heap[gb115]? = some (.cells #[.slice A0_0 l0_0.length c0_0, .slice A0_1 l0_1.length c0_1, .int .i64 a0_2, .int .i64 a0_3, .int .i64 a0_4] 24 (0, 0))) := ⟨h7_⟩
     have n8_ : Aside0 (w52.heap[gb116]? = some (.cells #[.slice none 0 0, .slice none 0 0, .slice none 0 0, .slice none 0 0, .int .i64 x117004_1] 28 (0, 0))) := ⟨h8_⟩
     have n9_ : Aside0 (w52.heap[gb117]? = some (.cells #[u118000, u118001, .slice Ao43 x118002_1.length co43, .slice Ao44 x118003_1.length co44, .int .i64 0] 28 (0, 0))) := ⟨h9_⟩
     have n10_ : Aside0 (Below w.heap.size w w52) := ⟨h10_⟩
     clear HO_15 HO_118000 HO_118001 HO_118002 HO_118003 BK115 BK116 BK117 HB h0_ h1_ h2_ h3_ h4_ h5_ h6_ h7_ h8_ h9_ h10_
     have HO138 := n0_
     have HO141 := n1_
     have HO144 := n2_
     have HO_118000 := n3_
     have HO_118001 := n4_
     have HO_118003 := n5_
     have HO_15 := n6_
     have BK115 := n7_
     have BK116 := n8_
     have BK117 := n9_
     have HB := n10_
     clear n0_ n1_ n2_ n3_ n4_ n5_ n6_ n7_ n8_ n9_ n10_
     have hHeld : w52.cell? ⟨gb117, 0, none⟩ = some (u118000) ∧ w52.cell? ⟨gb117, 1, none⟩ = some (u118001) ∧ w52.cell? ⟨gb117, 2, none⟩ = some (.slice Ao43 x118002_1.length co43) ∧ w52.cell? ⟨gb117, 3, none⟩ = some (.slice Ao44 x118003_1.length co44) ∧ w52.cell? ⟨gb117, 4, none⟩ = some (.int .i64 0) ∧ w52.cell? ⟨gb115, 0, none⟩ = some (.slice A0_0 l0_0.length c0_0) ∧ w52.cell? ⟨gb115, 1, none⟩ = some (.slice A0_1 l0_1.length c0_1) ∧ w52.cell? ⟨gb115, 2, none⟩ = some (.int .i64 a0_2) ∧ w52.cell? ⟨gb115, 3, none⟩ = some (.int .i64 a0_3) ∧ w52.cell? ⟨gb115, 4, none⟩ = some (.int .i64 a0_4) := hS_
     obtain ⟨Ao54, co54, eo54⟩ := Kd.R_slice HO144.out
     (first | subst eo54 | (injection eo54 with f1_ f2_ f3_; have f4_ := f1_.symm; have f5_ := f3_.symm; clear f1_ f2_ f3_; subst f4_; subst f5_))
     refine norm_ (a' := ?_) ?_ ?_; rotate_left
     ·simp only [putAll, Act.put, List.setIfInBounds_toArray, List.set_cons_zero, List.set_cons_succ]
      rfl
     refine one_ (i := 15) (N := some 68) #[true, true, true, true, true, true, true, true, true, true, true, true, true, true, true, true, true, false, false, false] rfl rfl (one_of HT_.out (by kernel_rfl)) (by decide) (fun K hK => ?_)
     refine Kd.R_append_rows_step (Kd.int .i64) (w0 := w) w.heap.size (by rfl) (.tmp 59) (.tmp 67) 22 3 (.int .i64 0) 8 rfl Try.underlying22 info3 rfl (by decide) (by omega) (.slice Ao44 x118003_1.length co44) x118003_1 y142 _ _ _ (fun k_ => some k_ ≠ (.slice (some ad121) t118.length co11 : Value).ownBlock ∧ some k_ ≠ (u118000 : Value).ownBlock ∧ some k_ ≠ (u118001 : Value).ownBlock ∧ some k_ ≠ (v137 : Value).ownBlock ∧ some k_ ≠ (v140 : Value).ownBlock ∧ some k_ ≠ (.slice Ao54 y142.length co54 : Value).ownBlock) (fun _ => False) rfl rfl ?aO ?aR (fun _ _ h => h) (fun _ h => h.elim) ?aF ?aB ?aS ?aL ?_
     (case aR => repeat (first | exact (Kd.R_reads' HO144.out).2.2 | (with_reducible refine Kd.C_alloc ?_ _) | (with_reducible refine Kd.C_drewN ?_ _) | (with_reducible refine Kd.C_drew ?_)))
     (case aB => exact (qW HB.out))
     (case aF => exact (fun k_ hk => ⟨Kd.fresh' (Kd.R_lt (qR HO_15.out)) k_ hk, Kd.fresh' (Kd.R_lt (qR HO_118000.out)) k_ hk, Kd.fresh' (Kd.R_lt (qR HO_118001.out)) k_ hk, Kd.fresh' (Kd.R_lt (qR HO138.out)) k_ hk, Kd.fresh' (Kd.R_lt (qR HO141.out)) k_ hk, Kd.fresh' (Kd.R_lt (qR HO144.out)) k_ hk⟩))
     (case aO => exact (qR (Kd.R_mono HO_118003.out (fun _ hk => ⟨hk.2.2.2.2.2, ⟨hk.2.2.2.1, ⟨hk.2.2.2.2.1, ⟨hk.1, ⟨hk.2.1, hk.2.2.1⟩⟩⟩⟩⟩))))
     (case aS => exact (below_size (qW HB.out)))
     (case aL => have := LMc42.out; omega)
     intro v146 w53 ho hb hg hat
     rw [← Ny145.out] at ho
     have n0_ := Aside0.mk (Kd.R_after (ok := (fun k_ => some k_ ≠ (u118000 : Value).ownBlock ∧ some k_ ≠ (u118001 : Value).ownBlock ∧ some k_ ≠ (v137 : Value).ownBlock ∧ some k_ ≠ (v140 : Value).ownBlock ∧ some k_ ≠ (.slice Ao54 y142.length co54 : Value).ownBlock)) (qR (Kd.R_mono HO_15.out (fun _ hk => ⟨⟨hk.2.2.2.1, ⟨hk.2.2.2.2.1, ⟨hk.1, ⟨hk.2.1, hk.2.2.1⟩⟩⟩⟩, hk.2.2.2.2.2⟩))) hg hat)
     have n1_ := Aside0.mk (Kd.R_after (ok := (fun k_ => some k_ ≠ (.slice (some ad121) t118.length co11 : Value).ownBlock ∧ some k_ ≠ (u118001 : Value).ownBlock ∧ some k_ ≠ (v137 : Value).ownBlock ∧ some k_ ≠ (v140 : Value).ownBlock ∧ some k_ ≠ (.slice Ao54 y142.length co54 : Value).ownBlock)) (qR (Kd.R_mono HO_118000.out (fun _ hk => ⟨⟨hk.2.2.2.2.2, ⟨hk.2.2.2.1, ⟨hk.1, ⟨hk.2.1, hk.2.2.1⟩⟩⟩⟩, hk.2.2.2.2.1⟩))) hg hat)
     have n2_ := Aside0.mk (Kd.R_after (ok := (fun k_ => some k_ ≠ (.slice (some ad121) t118.length co11 : Value).ownBlock ∧ some k_ ≠ (u118000 : Value).ownBlock ∧ some k_ ≠ (v137 : Value).ownBlock ∧ some k_ ≠ (v140 : Value).ownBlock ∧ some k_ ≠ (.slice Ao54 y142.length co54 : Value).ownBlock)) (qR (Kd.R_mono HO_118001.out (fun _ hk => ⟨⟨hk.2.2.2.2.2, ⟨hk.2.2.2.1, ⟨hk.1, ⟨hk.2.1, hk.2.2.1⟩⟩⟩⟩, hk.2.2.2.2.1⟩))) hg hat)
     have n3_ := Aside0.mk (blk_grown (qB BK115.out) hg (Kd.R_ne HO_118003.out BK115.out (by decide)))
     have n4_ := Aside0.mk (blk_grown (qB BK116.out) hg (Kd.R_ne HO_118003.out BK116.out (by decide)))
     have n5_ := Aside0.mk (blk_grown (qB BK117.out) hg (Kd.R_ne HO_118003.out BK117.out (by decide)))
     have n6_ := Aside0.mk (Kd.R_after (ok := (fun k_ => some k_ ≠ (.slice (some ad121) t118.length co11 : Value).ownBlock ∧ some k_ ≠ (u118000 : Value).ownBlock ∧ some k_ ≠ (u118001 : Value).ownBlock ∧ some k_ ≠ (v140 : Value).ownBlock ∧ some k_ ≠ (.slice Ao54 y142.length co54 : Value).ownBlock)) (qR (Kd.R_mono HO138.out (fun _ hk => ⟨⟨hk.2.2.2.2.2, ⟨hk.2.2.1, ⟨hk.2.2.2.1, ⟨hk.1, hk.2.1⟩⟩⟩⟩, hk.2.2.2.2.1⟩))) hg hat)
     have n7_ := Aside0.mk (Kd.R_after (ok := (fun k_ => some k_ ≠ (.slice (some ad121) t118.length co11 : Value).ownBlock ∧ some k_ ≠ (u118000 : Value).ownBlock ∧ some k_ ≠ (u118001 : Value).ownBlock ∧ some k_ ≠ (v137 : Value).ownBlock ∧ some k_ ≠ (.slice Ao54 y142.length co54 : Value).ownBlock)) (qR (Kd.R_mono HO141.out (fun _ hk => ⟨⟨hk.2.2.2.2.2, ⟨hk.2.2.1, ⟨hk.2.2.2.1, ⟨hk.1, hk.2.1⟩⟩⟩⟩, hk.2.2.2.2.1⟩))) hg hat)
     have n8_ := Aside0.mk (Kd.R_after (ok := (fun k_ => some k_ ≠ (.slice (some ad121) t118.length co11 : Value).ownBlock ∧ some k_ ≠ (u118000 : Value).ownBlock ∧ some k_ ≠ (u118001 : Value).ownBlock ∧ some k_ ≠ (v137 : Value).ownBlock ∧ some k_ ≠ (v140 : Value).ownBlock)) (qR (Kd.R_mono HO144.out (fun _ hk => ⟨⟨hk.2.2.2.2.2, ⟨hk.2.2.1, ⟨hk.2.2.2.1, ⟨hk.1, hk.2.1⟩⟩⟩⟩, hk.2.2.2.2.1⟩))) hg hat)
     have n9_ := Aside0.mk (hb)
     have n10_ := Aside0.mk (ho)
     clear HO_15 HO_118000 HO_118001 BK115 BK116 BK117 HO138 HO141 HO144 HB HO_118003
     have HO_15 := n0_
     have HO_118000 := n1_
     have HO_118001 := n2_
     have BK115 := n3_
     have BK116 := n4_
     have BK117 := n5_
     have HO138 := n6_
     have HO141 := n7_
     have HO144 := n8_
     have HB := n9_
     have HO147 := n10_
     clear n0_ n1_ n2_ n3_ n4_ n5_ n6_ n7_ n8_ n9_ n10_ ho hb hg hat
     obtain ⟨Ao55, co55, eo55⟩ := Kd.R_slice HO141.out
     (first | subst eo55 | (injection eo55 with f1_ f2_ f3_; have f4_ := f1_.symm; have f5_ := f3_.symm; clear f1_ f2_ f3_; subst f4_; subst f5_))
     obtain ⟨Ao57, co57, eo57⟩ := Kd.R_slice HO147.out
     (first | subst eo57 | (injection eo57 with f1_ f2_ f3_; have f4_ := f1_.symm; have f5_ := f3_.symm; clear f1_ f2_ f3_; subst f4_; subst f5_))
     refine hK.out _ _ ⟨(blk_cell BK117.out 0).trans rfl, (blk_cell BK117.out 1).trans rfl, (blk_cell BK117.out 2).trans rfl, (blk_cell BK117.out 3).trans rfl, (blk_cell BK117.out 4).trans rfl, (blk_cell BK115.out 0).trans rfl, (blk_cell BK115.out 1).trans rfl, (blk_cell BK115.out 2).trans rfl, (blk_cell BK115.out 3).trans rfl, (blk_cell BK115.out 4).trans rfl⟩ (fun hHeld => ?_); clear hK K
     refine norm_ (a' := ?_) ?_ ?_; rotate_left
     ·show Act.put _ (some 68) _ = _
      simp only [Act.put, List.setIfInBounds_toArray, List.set_cons_zero, List.set_cons_succ, i64_w, i32_w]
      rfl
     refine last_ (i := 17) (N := none) #[true, true, true, true, true, true, true, true, true, true, true, true, true, true, true, true, true, true, false, false] rfl rfl (one_of HT_.out (by kernel_rfl)) (by decide) (fun K hK => ?_)
     have hs56 : w53.cell? ⟨gb117, 2, none⟩ = some (.slice Ao43 x118002_1.length co43) := (blk_cell BK117.out 2).trans rfl
     have hfs56 := blk_frozen BK117.out 2
     have hns56_0 := NB115_117.out
     have hns56_1 := NB116_117.out
     have hms56_0 := NB117_115.out
     have hms56_1 := NB117_116.out
     refine skip_ (w1 := ?_) (by rfl) rfl ?_ ?_; rotate_left
     ·go_simp
      rfl
     refine hK.out _ _ ?_; clear hK K
     refine pS (i := 18) (N := some 70) #[true, true, true, true, true, true, true, true, true, true, true, true, true, true, true, true, true, true, true, false] rfl rfl HT_.out ?_
     refine last_ (i := 19) (N := none) #[true, true, true, true, true, true, true, true, true, true, true, true, true, true, true, true, true, true, true, true] rfl rfl (one_of HT_.out (by kernel_rfl)) (by decide) (fun K hK => ?_)
     have hs58 : w53.cell? ⟨gb117, 3, none⟩ = some (.slice Ao44 x118003_1.length co44) := (blk_cell BK117.out 3).trans rfl
     have hfs58 := blk_frozen BK117.out 3
     have hns58_0 := NB115_117.out
     have hns58_1 := NB116_117.out
     have hms58_0 := NB117_115.out
     have hms58_1 := NB117_116.out
     refine skip_ (w1 := ?_) (by rfl) rfl ?_ ?_; rotate_left
     ·go_simp
      rfl
     refine hK.out _ _ ?_; clear hK K
     refine done_ (done_of HT_.out (by kernel_rfl)) ?_
     try go_wp2
     go_roundg kj17
     case measure => have := HK1.out; have := HJ17.out; omega
     case rel => exact ⟨(t122), (wrap64 (x17_1 + 1)), (x117004_1), (x118000_17), (x118001_17), (y139), (y145), (u118000), (u118001), (.slice Ao55 y139.length co55), (.slice Ao57 y145.length co57), (by first | rfl | (simp; done) | (simp [*]; done)), (by first | rfl | (simp; done) | (simp [*]; done)), H', ⟨by have := HK1.out; have := HJ17.out; omega⟩, ⟨by exact qR (Kd.R_mono (Kd.R_far (p := ⟨gb117, 3, none⟩) (Kd.R_far (p := ⟨gb117, 2, none⟩) (Kd.R_types HO_15.out BK117.out (by decide)) (fun _ hk => hk.2) (.slice Ao55 y139.length co55)) (fun _ hk => hk.2) (.slice Ao57 y145.length co57)) (fun _ hk => ⟨hk.1.1.1, ⟨hk.1.1.2.1, ⟨hk.1.1.2.2.2.1, hk.1.2⟩⟩⟩))⟩, ⟨by exact qR (Kd.R_mono (Kd.R_far (p := ⟨gb117, 3, none⟩) (Kd.R_far (p := ⟨gb117, 2, none⟩) (Kd.R_types HO_118000.out BK117.out (by decide)) (fun _ hk => hk.2) (.slice Ao55 y139.length co55)) (fun _ hk => hk.2) (.slice Ao57 y145.length co57)) (fun _ hk => ⟨hk.1.1.1, ⟨hk.1.1.2.1, ⟨hk.1.1.2.2.2.1, hk.1.2⟩⟩⟩))⟩, ⟨by exact qR (Kd.R_mono (Kd.R_far (p := ⟨gb117, 3, none⟩) (Kd.R_far (p := ⟨gb117, 2, none⟩) (Kd.R_types HO_118001.out BK117.out (by decide)) (fun _ hk => hk.2) (.slice Ao55 y139.length co55)) (fun _ hk => hk.2) (.slice Ao57 y145.length co57)) (fun _ hk => ⟨hk.1.1.1, ⟨hk.1.1.2.1, ⟨hk.1.1.2.2.2.1, hk.1.2⟩⟩⟩))⟩, ⟨by exact qR (Kd.R_mono (Kd.R_far (p := ⟨gb117, 3, none⟩) (Kd.R_far (p := ⟨gb117, 2, none⟩) (Kd.R_types HO141.out BK117.out (by decide)) (fun _ hk => hk.2) (.slice Ao55 y139.length co55)) (fun _ hk => hk.2) (.slice Ao57 y145.length co57)) (fun _ hk => ⟨hk.1.1.1, ⟨hk.1.1.2.1, ⟨hk.1.1.2.2.1, hk.1.2⟩⟩⟩))⟩, ⟨by exact qR (Kd.R_mono (Kd.R_far (p := ⟨gb117, 3, none⟩) (Kd.R_far (p := ⟨gb117, 2, none⟩) (Kd.R_types HO147.out BK117.out (by decide)) (fun _ hk => hk.2) (.slice Ao55 y139.length co55)) (fun _ hk => hk.2) (.slice Ao57 y145.length co57)) (fun _ hk => ⟨hk.1.1, ⟨hk.1.2.1, ⟨hk.1.2.2.1, hk.1.2.2.2.2.1⟩⟩⟩))⟩, ⟨by (with_reducible repeat (first | refine blk_drewN ?_ _ | refine blk_drew ?_ | refine blk_alloc ?_ _)); refine blk_far ?_ NB115_117.out _; (with_reducible repeat (first | refine blk_drewN ?_ _ | refine blk_drew ?_ | refine blk_alloc ?_ _)); refine blk_far ?_ NB115_117.out _; exact qB BK115.out⟩, ⟨by (with_reducible repeat (first | refine blk_drewN ?_ _ | refine blk_drew ?_ | refine blk_alloc ?_ _)); refine blk_far ?_ NB116_117.out _; (with_reducible repeat (first | refine blk_drewN ?_ _ | refine blk_drew ?_ | refine blk_alloc ?_ _)); refine blk_far ?_ NB116_117.out _; exact qB BK116.out⟩, ⟨by (with_reducible repeat (first | refine blk_drewN ?_ _ | refine blk_drew ?_ | refine blk_alloc ?_ _)); refine blk_put (cs := #[u118000, u118001, .slice Ao55 y139.length co55, .slice Ao44 x118003_1.length co44, .int .i64 0]) ?_ 3 _ rfl; (with_reducible repeat (first | refine blk_drewN ?_ _ | refine blk_drew ?_ | refine blk_alloc ?_ _)); refine blk_put (cs := #[u118000, u118001, .slice Ao43 x118002_1.length co43, .slice Ao44 x118003_1.length co44, .int .i64 0]) ?_ 2 _ rfl; exact qB BK117.out⟩, ⟨by repeat (first | (with_reducible first | exact HB.out | apply below_alloc | apply pw_below_drewN | apply below_drew1 | refine below_set ?_ GE115.out | refine below_set ?_ GE116.out | refine below_set ?_ GE117.out) | exact HB.out)⟩⟩
end Go.Proofs.Ytcflacjidabppaa.Pr

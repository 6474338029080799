-- Written by pp.py, a program of this session, over the translation of the given program; a machine's text: Lean checks it.
import Derived.Test.YtanlonngekgibaaGShort
import Derived.Test.YtanlonngekgibaaF11
import Derived.Test.YtanlonngekgibaaF16
import Derived.Test.YtanlonngekgibaaF18
import Derived.Test.YtanlonngekgibaaF20
import Derived.Test.YtanlonngekgibaaGConv
import Derived.Test.YtanlonngekgibaaGMin
namespace Go.Proofs.Ytanlonngekgibaa.Pr
open Go.RowKit Go.Proofs.YtanlonngekgibaaW.PrintWords Go.Proofs.YtanlonngekgibaaW.PrintLast Go.Proofs.YtanlonngekgibaaW.PrintMore
attribute [local go_sem] max2_int min2_int max_two min_two max_three min_three max_four min_four   -- for this text's walks alone
set_option linter.unusedVariables false
set_option linter.unusedSimpArgs false

/-! ### standbylaw55_CurvePoints: function 10 -/
mutual
def standbylaw55_CurvePoints.j0 : Nat → Int → Bool → List Int → Int → List Int → Int → Option (Bool)
 | 0, _, _, _, _, _, _ => none
 | k + 1, x2, x39, x515000, x515001, x516000, x516001 => if x39 = true then ((standbylaw55_awake.f k).bind fun t521 => (some t521)) else ((curve_At.f k x515000 x515001 (wrap64 (x2))).bind fun t522 => ((curve_At.f k x516000 x516001 (wrap64 (x2))).bind fun t523 => ((curve_Min.f k x515000 x515001 x516000 x516001).bind fun bt524 => (if bt524.2.2 = 0 then ((curve_Check.f k bt524.1 bt524.2.1).bind fun t530 => (if t530 = 0 then ((curve_At.f k bt524.1 bt524.2.1 (wrap64 (x2))).bind fun t531 => (standbylaw55_CurvePoints.j1 k (wrap64 (x2)) t522 t523 (t531 != (mn t522 t523)) x515000 x515001 x516000 x516001)) else (none))) else (standbylaw55_CurvePoints.j1 k (wrap64 (x2)) t522 t523 false x515000 x515001 x516000 x516001)))))
def standbylaw55_CurvePoints.j1 : Nat → Int → Int → Int → Bool → List Int → Int → List Int → Int → Option (Bool)
 | 0, _, _, _, _, _, _, _, _ => none
 | k + 1, x7, x8, x9, x70, x515000, x515001, x516000, x516001 => if x70 = true then (none) else ((curve_Add.f k x515000 x515001 x516000 x516001).bind fun bt532 => (if bt532.2.2 = 0 then ((curve_Check.f k bt532.1 bt532.2.1).bind fun t538 => (if t538 = 0 then ((curve_At.f k bt532.1 bt532.2.1 x7).bind fun t539 => (standbylaw55_CurvePoints.j2 k x7 (t539 != (wrap64 (x8 + x9))) x515000 x515001 x516000 x516001)) else (none))) else (standbylaw55_CurvePoints.j2 k x7 false x515000 x515001 x516000 x516001)))
def standbylaw55_CurvePoints.j2 : Nat → Int → Bool → List Int → Int → List Int → Int → Option (Bool)
 | 0, _, _, _, _, _, _ => none
 | k + 1, x7, x92, x515000, x515001, x516000, x516001 => if x92 = true then (none) else ((curve_Convolve.f k x515000 x515001 x516000 x516001).bind fun bt540 => ((curve_Convolve.f k x516000 x516001 x515000 x515001).bind fun bt546 => (if bt540.2.2 = bt546.2.2 then ((standbyref55_Same.f k bt540.1 bt540.2.1 bt546.1 bt546.2.1).bind fun t552 => (if t552 = true then (if bt540.2.2 = 0 then ((curve_At.f k x515000 x515001 0).bind fun t554 => ((curve_At.f k x516000 x516001 x7).bind fun t555 => (standbylaw55_CurvePoints.l0 k x7 (wrap64 (t554 + t555)) (wrap64 (x7 + 1)) 0 x515000 x515001 x516000 x516001 bt540.1 bt540.2.1))) else ((standbylaw55_awake.f k).bind fun t553 => (some t553))) else (none))) else (none))))
def standbylaw55_CurvePoints.l0 : Nat → Int → Int → Int → Int → List Int → Int → List Int → Int → List Int → Int → Option (Bool)
 | 0, _, _, _, _, _, _, _, _, _, _ => none
 | k + 1, x7, x18, x124, x125, x515000, x515001, x516000, x516001, x546000, x546001 => if x125 < x124 then ((curve_At.f k x515000 x515001 x125).bind fun t556 => ((curve_At.f k x516000 x516001 (wrap64 (x7 - x125))).bind fun t557 => (standbylaw55_CurvePoints.l0 k x7 (mn x18 (wrap64 (t556 + t557))) x124 (wrap64 (x125 + 1)) x515000 x515001 x516000 x516001 x546000 x546001))) else ((curve_Check.f k x546000 x546001).bind fun t558 => (if t558 = 0 then ((curve_At.f k x546000 x546001 x7).bind fun t559 => (if t559 = x18 then ((standbylaw55_awake.f k).bind fun t560 => (some t560)) else (none))) else (none)))
end
def standbylaw55_CurvePoints.f (k : Nat) (l0_0 : List Int) (a0_1 : Int) (l1_0 : List Int) (a1_1 : Int) (a2 : Int) : Option (Bool) := if (l0_0.length : Int) > 20 then (standbylaw55_CurvePoints.j0 k a2 true l0_0 a0_1 l1_0 a1_1) else (if (l1_0.length : Int) > 20 then (standbylaw55_CurvePoints.j0 k a2 true l0_0 a0_1 l1_0 a1_1) else ((curve_Check.f k l0_0 a0_1).bind fun t516 => (if t516 = 0 then ((curve_Check.f k l1_0 a1_1).bind fun t517 => (standbylaw55_CurvePoints.j0 k a2 (t517 != 0) l0_0 a0_1 l1_0 a1_1)) else (standbylaw55_CurvePoints.j0 k a2 true l0_0 a0_1 l1_0 a1_1))))
def standbylaw55_CurvePoints.T4 : Bool × List (List Nat × List Nat) := (true, [([], []), ([], []), ([0, 1], [0, 1]), ([], []), ([], []), ([3, 4, 2], [3, 4]), ([2, 5, 0, 1, 2], [2]), ([5, 6, 0, 1, 2, 3, 4, 5, 6], [5])])
def standbylaw55_CurvePoints.B4 : List Nat := [0, 0, 3, 0, 0, 31, 63, 127]
theorem standbylaw55_CurvePoints.tab4 : rtab .any (opsOf Try.f10 4) = standbylaw55_CurvePoints.T4 := by kernel_rfl
theorem standbylaw55_CurvePoints.bits4 : waitsOk standbylaw55_CurvePoints.T4.2 standbylaw55_CurvePoints.B4 = true := by kernel_rfl
def standbylaw55_CurvePoints.T21 : Bool × List (List Nat × List Nat) := (true, [([], []), ([], []), ([], []), ([1, 2], [1, 2]), ([], []), ([], []), ([], []), ([5, 6], [5, 6]), ([4, 7, 3], [4, 7]), ([3, 8], [3, 8]), ([0, 9], [0, 9]), ([10, 8, 0, 1, 2, 3, 4, 5, 6, 7, 8, 9, 10], [0, 10])])
def standbylaw55_CurvePoints.B21 : List Nat := [0, 0, 0, 6, 0, 0, 0, 96, 254, 510, 1023, 2047]
theorem standbylaw55_CurvePoints.tab21 : rtab .any (opsOf Try.f10 21) = standbylaw55_CurvePoints.T21 := by kernel_rfl
theorem standbylaw55_CurvePoints.bits21 : waitsOk standbylaw55_CurvePoints.T21.2 standbylaw55_CurvePoints.B21 = true := by kernel_rfl
set_option maxHeartbeats 8000000 in
set_option maxRecDepth 100000 in
theorem standbylaw55_CurvePoints.calls (k : Nat) (A0_0 : Option Addr) (c0_0 : Nat) (l0_0 : List Int) (a0_1 : Int) (A1_0 : Option Addr) (c1_0 : Nat) (l1_0 : List Int) (a1_1 : Int) (a2 : Int) (r : Bool) (w : World) (hr0_0 : Kd.C (Kd.int .i64) w A0_0 l0_0.length l0_0) (hc0_0 : l0_0.length ≤ c0_0) (hr1_0 : Kd.C (Kd.int .i64) w A1_0 l1_0.length l1_0) (hc1_0 : l1_0.length ≤ c1_0) (h : standbylaw55_CurvePoints.f k l0_0 a0_1 l1_0 a1_1 a2 = some r) :
  Calls Try.prog 10 #[.agg #[.slice A0_0 l0_0.length c0_0, .int .i64 a0_1], .agg #[.slice A1_0 l1_0.length c1_0, .int .i64 a1_1], .int .u8 a2] w fun e w' => e = .returned (.bool r) ∧ Below w.heap.size w w' := by
 have hu24 := Try.underlying24
 have HR0_0 := Aside0.mk hr0_0
 have HC0_0 := Aside0.mk hc0_0
 clear hr0_0 hc0_0
 have HR1_0 := Aside0.mk hr1_0
 have HC1_0 := Aside0.mk hc1_0
 clear hr1_0 hc1_0
 have HB := Aside0.mk (Below.refl w.heap.size w)
 have H : (if (l0_0.length : Int) > 20 then (standbylaw55_CurvePoints.j0 k a2 true l0_0 a0_1 l1_0 a1_1) else (if (l1_0.length : Int) > 20 then (standbylaw55_CurvePoints.j0 k a2 true l0_0 a0_1 l1_0 a1_1) else ((curve_Check.f k l0_0 a0_1).bind fun t516 => (if t516 = 0 then ((curve_Check.f k l1_0 a1_1).bind fun t517 => (standbylaw55_CurvePoints.j0 k a2 (t517 != 0) l0_0 a0_1 l1_0 a1_1)) else (standbylaw55_CurvePoints.j0 k a2 true l0_0 a0_1 l1_0 a1_1))))) = some r := h
 clear h
 have HC4 := Aside0.mk H
 clear H
 go_enter Try.func10, Try.ntmps10
 go_upto_region 1 with (first | ((with_reducible refine gate_dst (N := 3) rfl ?_); (try (refine gate_guard (by rfl) ?_; dsimp only)); refine box_event ?hg (N := 3) ?hd (cs := #[.slice A0_0 l0_0.length c0_0, .int .i64 a0_1]) (t := 24) ?hr ?_; (case hd => rfl); (case hg => rfl); (case hr => first | (go_simp; done) | (go_simp; rfl)); intro gb514 hg w5 hbox hb; have n0_ := Aside0.mk (below_step (qW HB.out) hb); have n1_ := Aside0.mk (hbox); have n2_ := Aside0.mk ((by rw [hg]; exact (below_size (qW HB.out)) : w.heap.size ≤ gb514)); have n3_ := Aside0.mk ((by rw [hg]; exact (below_size (qW HB.out)) : w.heap.size ≤ gb514)); clear HB; have HB := n0_; have BK514 := n1_; have GW514 := n2_; have GE514 := n3_; clear n0_ n1_ n2_ n3_ hb hbox hg) | ((with_reducible refine gate_dst (N := 4) rfl ?_); (try (refine gate_guard (by rfl) ?_; dsimp only)); refine box_event ?hg (N := 4) ?hd (cs := #[.slice A1_0 l1_0.length c1_0, .int .i64 a1_1]) (t := 24) ?hr ?_; (case hd => rfl); (case hg => rfl); (case hr => first | (go_simp; done) | (go_simp; rfl)); intro gb515 hg w6 hbox hb; have n0_ := Aside0.mk (blk_below (qB BK514.out) hb); have n1_ := Aside0.mk (below_step (qW HB.out) hb); have n2_ := Aside0.mk (hbox); have n3_ := Aside0.mk ((by rw [hg]; exact (below_size (qW HB.out)) : w.heap.size ≤ gb515)); have n4_ := Aside0.mk ((by rw [hg]; exact (below_size (qW HB.out)) : w.heap.size ≤ gb515)); have n5_ := Aside0.mk ((by rw [hg]; exact Nat.ne_of_lt (blk_lt (qB BK514.out)) : gb514 ≠ gb515)); have n6_ := Aside0.mk ((by rw [hg]; exact Nat.ne_of_gt (blk_lt (qB BK514.out)) : gb515 ≠ gb514)); clear BK514 HB; have BK514 := n0_; have HB := n1_; have BK515 := n2_; have GW515 := n3_; have GE515 := n4_; have NB514_515 := n5_; have NB515_514 := n6_; clear n0_ n1_ n2_ n3_ n4_ n5_ n6_ hb hbox hg))
 (try simp only [Act.put, List.setIfInBounds_toArray, List.set_cons_zero, List.set_cons_succ])
 go_cut [39] (fun v39 wc => ∃ (kq : Nat) (x39_3 : Bool), v39 = .bool x39_3 ∧ Aside0 (standbylaw55_CurvePoints.j0 kq a2 x39_3 l0_0 a0_1 l1_0 a1_1 = some r) ∧ Aside0 (kq ≤ k) ∧ Aside0 (wc.heap[gb514]? = some (.cells #[(.slice A0_0 l0_0.length c0_0), .int .i64 a0_1] 24 (0, 0))) ∧ Aside0 (wc.heap[gb515]? = some (.cells #[(.slice A1_0 l1_0.length c1_0), .int .i64 a1_1] 24 (0, 0))) ∧ Aside0 (Below w.heap.size w wc))
 case first =>
  have H := HC4.out
  clear HC4
  by_cases c7 : (l0_0.length : Int) > 20
  ·rw [if_pos c7] at H
   have c7b0 : decide (20 < (l0_0.length : Int)) = true := decide_eq_true c7
   have c7b1 : decide (20 < l0_0.length) = true := decide_eq_true (by omega)
   clear c7
   (first | rw [c7b0] | (simp only [i64_w, i32_w]; rw [c7b0]) | skip)
   have H' := Aside0.mk H
   clear H
   have hnb8 := NB514_515.out
   have hnc8 := NB515_514.out
   have hcz9_0 : w6.cell? ⟨gb514, 0, none⟩ = some (.slice A0_0 l0_0.length c0_0) := (blk_cell BK514.out 0).trans rfl
   have hcz9_1 : w6.cell? ⟨gb514, 1, none⟩ = some (.int .i64 a0_1) := (blk_cell BK514.out 1).trans rfl
   have hfz9_0 := blk_frozen BK514.out 0
   have hfz9_1 := blk_frozen BK514.out 1
   go_wp2
   go_meet
   case rel => exact ⟨_, (true), (by first | rfl | (simp; done) | (simp [*]; done)), H', ⟨by first | omega | exact Nat.le_refl _⟩, ⟨by exact qB BK514.out⟩, ⟨by exact qB BK515.out⟩, ⟨by repeat (first | (with_reducible first | exact HB.out | apply below_alloc | apply pw_below_drewN | apply below_drew1 | refine below_set ?_ GE514.out | refine below_set ?_ GE515.out) | exact HB.out)⟩⟩
  ·rw [if_neg c7] at H
   have c7b0 : decide (20 < (l0_0.length : Int)) = false := decide_eq_false c7
   have c7b1 : decide (20 < l0_0.length) = false := decide_eq_false (by omega)
   clear c7
   (first | rw [c7b0] | (simp only [i64_w, i32_w]; rw [c7b0]) | skip)
   by_cases c10 : (l1_0.length : Int) > 20
   ·rw [if_pos c10] at H
    have c10b0 : decide (20 < (l1_0.length : Int)) = true := decide_eq_true c10
    have c10b1 : decide (20 < l1_0.length) = true := decide_eq_true (by omega)
    clear c10
    have H' := Aside0.mk H
    clear H
    have hnb11 := NB514_515.out
    have hnc11 := NB515_514.out
    have hcz12_0 : w6.cell? ⟨gb514, 0, none⟩ = some (.slice A0_0 l0_0.length c0_0) := (blk_cell BK514.out 0).trans rfl
    have hcz12_1 : w6.cell? ⟨gb514, 1, none⟩ = some (.int .i64 a0_1) := (blk_cell BK514.out 1).trans rfl
    have hfz12_0 := blk_frozen BK514.out 0
    have hfz12_1 := blk_frozen BK514.out 1
    have hcz13_0 : w6.cell? ⟨gb515, 0, none⟩ = some (.slice A1_0 l1_0.length c1_0) := (blk_cell BK515.out 0).trans rfl
    have hcz13_1 : w6.cell? ⟨gb515, 1, none⟩ = some (.int .i64 a1_1) := (blk_cell BK515.out 1).trans rfl
    have hfz13_0 := blk_frozen BK515.out 0
    have hfz13_1 := blk_frozen BK515.out 1
    go_wp2
    go_meet
    case rel => exact ⟨_, (true), (by first | rfl | (simp; done) | (simp [*]; done)), H', ⟨by first | omega | exact Nat.le_refl _⟩, ⟨by exact qB BK514.out⟩, ⟨by exact qB BK515.out⟩, ⟨by repeat (first | (with_reducible first | exact HB.out | apply below_alloc | apply pw_below_drewN | apply below_drew1 | refine below_set ?_ GE514.out | refine below_set ?_ GE515.out) | exact HB.out)⟩⟩
   ·rw [if_neg c10] at H
    have c10b0 : decide (20 < (l1_0.length : Int)) = false := decide_eq_false c10
    have c10b1 : decide (20 < l1_0.length) = false := decide_eq_false (by omega)
    clear c10
    replace H := Option.bind_eq_some_iff.mp H
    obtain ⟨t516, A140, H⟩ := H
    replace H : (if t516 = 0 then ((curve_Check.f k l1_0 a1_1).bind fun t517 => (standbylaw55_CurvePoints.j0 k a2 (t517 != 0) l0_0 a0_1 l1_0 a1_1)) else (standbylaw55_CurvePoints.j0 k a2 true l0_0 a0_1 l1_0 a1_1)) = some r := H
    have A14 := Aside0.mk A140
    clear A140
    by_cases c15 : t516 = 0
    case neg =>
     rw [if_neg c15] at H
     have c15b0 : (t516 == 0) = false := beq_eq_false_iff_ne.mpr c15
     have c15b1 : (t516 != 0) = true := bne_iff_ne.mpr c15
     have H' := Aside0.mk H
     clear H
     have hnb23 := NB514_515.out
     have hnc23 := NB515_514.out
     have hcz24_0 : w6.cell? ⟨gb514, 0, none⟩ = some (.slice A0_0 l0_0.length c0_0) := (blk_cell BK514.out 0).trans rfl
     have hcz24_1 : w6.cell? ⟨gb514, 1, none⟩ = some (.int .i64 a0_1) := (blk_cell BK514.out 1).trans rfl
     have hfz24_0 := blk_frozen BK514.out 0
     have hfz24_1 := blk_frozen BK514.out 1
     have hcz25_0 : w6.cell? ⟨gb515, 0, none⟩ = some (.slice A1_0 l1_0.length c1_0) := (blk_cell BK515.out 0).trans rfl
     have hcz25_1 : w6.cell? ⟨gb515, 1, none⟩ = some (.int .i64 a1_1) := (blk_cell BK515.out 1).trans rfl
     have hfz25_0 := blk_frozen BK515.out 0
     have hfz25_1 := blk_frozen BK515.out 1
     go_wp2_with (first | (go_at_call 16; (with_reducible refine (curve_Check.calls k _ _ l0_0 a0_1 t516 _ ?side1 ?side2 A14.out).mono ?_); (case side1 => exact qC HR0_0.out HB.out); (case side2 => exact HC0_0.out); rintro e w26 ⟨rfl, hb⟩; have n0_ := Aside0.mk (blk_below (qB BK514.out) hb); have n1_ := Aside0.mk (blk_below (qB BK515.out) hb); have n2_ := Aside0.mk (below_step (qW HB.out) hb); clear BK514 BK515 HB; have BK514 := n0_; have BK515 := n1_; have HB := n2_; clear n0_ n1_ n2_; (try clear hb); (try clear hb2); (try clear hk); (try clear hi)))
     go_meet
     case rel => exact ⟨_, (true), (by first | rfl | (simp; done) | (simp [*]; done)), H', ⟨by first | omega | exact Nat.le_refl _⟩, ⟨by exact qB BK514.out⟩, ⟨by exact qB BK515.out⟩, ⟨by repeat (first | (with_reducible first | exact HB.out | apply below_alloc | apply pw_below_drewN | apply below_drew1 | refine below_set ?_ GE514.out | refine below_set ?_ GE515.out) | exact HB.out)⟩⟩
    rw [if_pos c15] at H
    have c15b0 : (t516 == 0) = true := beq_iff_eq.mpr c15
    have c15b1 : (t516 != 0) = false := bne_eq_false_iff_eq.mpr c15
    clear c15
    replace H := Option.bind_eq_some_iff.mp H
    obtain ⟨t517, A160, H⟩ := H
    replace H : (standbylaw55_CurvePoints.j0 k a2 (t517 != 0) l0_0 a0_1 l1_0 a1_1) = some r := H
    have A16 := Aside0.mk A160
    clear A160
    have H' := Aside0.mk H
    clear H
    have hnb17 := NB514_515.out
    have hnc17 := NB515_514.out
    have hcz18_0 : w6.cell? ⟨gb514, 0, none⟩ = some (.slice A0_0 l0_0.length c0_0) := (blk_cell BK514.out 0).trans rfl
    have hcz18_1 : w6.cell? ⟨gb514, 1, none⟩ = some (.int .i64 a0_1) := (blk_cell BK514.out 1).trans rfl
    have hfz18_0 := blk_frozen BK514.out 0
    have hfz18_1 := blk_frozen BK514.out 1
    have hcz19_0 : w6.cell? ⟨gb515, 0, none⟩ = some (.slice A1_0 l1_0.length c1_0) := (blk_cell BK515.out 0).trans rfl
    have hcz19_1 : w6.cell? ⟨gb515, 1, none⟩ = some (.int .i64 a1_1) := (blk_cell BK515.out 1).trans rfl
    have hfz19_0 := blk_frozen BK515.out 0
    have hfz19_1 := blk_frozen BK515.out 1
    go_wp2_with (first | (go_at_call 16; (with_reducible refine (curve_Check.calls k _ _ l0_0 a0_1 t516 _ ?side1 ?side2 A14.out).mono ?_); (case side1 => exact qC HR0_0.out HB.out); (case side2 => exact HC0_0.out); rintro e w20 ⟨rfl, hb⟩; have n0_ := Aside0.mk (blk_below (qB BK514.out) hb); have n1_ := Aside0.mk (blk_below (qB BK515.out) hb); have n2_ := Aside0.mk (below_step (qW HB.out) hb); clear BK514 BK515 HB; have BK514 := n0_; have BK515 := n1_; have HB := n2_; clear n0_ n1_ n2_; (try clear hb); (try clear hb2); (try clear hk); (try clear hi); have hcz21_0 : w20.cell? ⟨gb515, 0, none⟩ = some (.slice A1_0 l1_0.length c1_0) := (blk_cell BK515.out 0).trans rfl; have hcz21_1 : w20.cell? ⟨gb515, 1, none⟩ = some (.int .i64 a1_1) := (blk_cell BK515.out 1).trans rfl; have hfz21_0 := blk_frozen BK515.out 0; have hfz21_1 := blk_frozen BK515.out 1) | (go_at_call 16; (with_reducible refine (curve_Check.calls k _ _ l1_0 a1_1 t517 _ ?side1 ?side2 A16.out).mono ?_); (case side1 => exact qC HR1_0.out HB.out); (case side2 => exact HC1_0.out); rintro e w22 ⟨rfl, hb⟩; have n0_ := Aside0.mk (blk_below (qB BK514.out) hb); have n1_ := Aside0.mk (blk_below (qB BK515.out) hb); have n2_ := Aside0.mk (below_step (qW HB.out) hb); clear BK514 BK515 HB; have BK514 := n0_; have BK515 := n1_; have HB := n2_; clear n0_ n1_ n2_; (try clear hb); (try clear hb2); (try clear hk); (try clear hi)))
    go_meet
    case rel => exact ⟨_, ((t517 != 0)), (by first | rfl | (simp; done) | (simp [*]; done)), H', ⟨by first | omega | exact Nat.le_refl _⟩, ⟨by exact qB BK514.out⟩, ⟨by exact qB BK515.out⟩, ⟨by repeat (first | (with_reducible first | exact HB.out | apply below_alloc | apply pw_below_drewN | apply below_drew1 | refine below_set ?_ GE514.out | refine below_set ?_ GE515.out) | exact HB.out)⟩⟩
 case rest =>
  clear HC4
  try clear c1
  try clear c2
  try clear p2
  try clear c7
  try clear c7b0
  try clear c7b1
  try clear c8
  try clear c10
  try clear c10b0
  try clear c10b1
  try clear c11
  try clear c15
  try clear c15b0
  try clear c15b1
  try clear c17
  try clear c23
  try clear hcz12_0
  try clear hcz12_1
  try clear hcz13_0
  try clear hcz13_1
  try clear hcz18_0
  try clear hcz18_1
  try clear hcz19_0
  try clear hcz19_1
  try clear hcz21_0
  try clear hcz21_1
  try clear hcz24_0
  try clear hcz24_1
  try clear hcz25_0
  try clear hcz25_1
  try clear hcz9_0
  try clear hcz9_1
  try clear hfz12_0
  try clear hfz12_1
  try clear hfz13_0
  try clear hfz13_1
  try clear hfz18_0
  try clear hfz18_1
  try clear hfz19_0
  try clear hfz19_1
  try clear hfz21_0
  try clear hfz21_1
  try clear hfz24_0
  try clear hfz24_1
  try clear hfz25_0
  try clear hfz25_1
  try clear hfz9_0
  try clear hfz9_1
  obtain ⟨kq, x39_3, rfl, HA, HJ3, BK514, BK515, HB⟩ := hcut
  cases kq with
  | zero => exact absurd HA.out (by simp [standbylaw55_CurvePoints.j0])
  | succ kj3 =>
   have H := HA.out
   clear HA
   simp only [standbylaw55_CurvePoints.j0] at H
   by_cases c27 : x39_3 = true
   ·subst c27
    have H1 : ((standbylaw55_awake.f kj3).bind fun t521 => (some t521)) = some r := by rw [if_pos rfl] at H; exact H
    clear H
    have H := H1
    clear H1
    replace H := Option.bind_eq_some_iff.mp H
    obtain ⟨t521, A280, H⟩ := H
    replace H : (some t521) = some r := H
    have A28 := Aside0.mk A280
    clear A280
    obtain rfl := Option.some.inj H
    go_wp2_with (first | ((with_reducible refine gate_callee (f := 11) rfl ?_); refine goesL_ (some 40) rfl rfl Try.func11 (by kernel_rfl) rfl #[] rfl (by (try simp only [List.map_toArray, List.map_cons, List.map_nil]); first | done | rfl | (simp only [List.length_drop, List.length_take]; rfl)) ?_; (with_reducible refine (standbylaw55_awake.calls kj3  t521 _ A28.out).mono ?_); rintro e w29 ⟨rfl, hb⟩; refine ⟨_, rfl, ?_⟩; have n0_ := Aside0.mk (blk_below (qB BK514.out) hb); have n1_ := Aside0.mk (blk_below (qB BK515.out) hb); have n2_ := Aside0.mk (below_step (qW HB.out) hb); clear BK514 BK515 HB; have BK514 := n0_; have BK515 := n1_; have HB := n2_; clear n0_ n1_ n2_; (try clear hb); (try clear hb2); (try clear hk); (try clear hi)))
    go_ret
    exact ⟨by first | rfl | (simp [errW_none, errW_some] <;> rfl) | (simp [*, errW_none, errW_some] <;> rfl), by repeat (first | (with_reducible first | exact HB.out | apply below_alloc | apply pw_below_drewN | apply below_drew1 | refine below_set ?_ GE514.out | refine below_set ?_ GE515.out) | exact HB.out)⟩
   ·replace c27 := Bool.eq_false_iff.mpr c27
    subst c27
    have H1 : ((curve_At.f kj3 l0_0 a0_1 (wrap64 (a2))).bind fun t522 => ((curve_At.f kj3 l1_0 a1_1 (wrap64 (a2))).bind fun t523 => ((curve_Min.f kj3 l0_0 a0_1 l1_0 a1_1).bind fun bt524 => (if bt524.2.2 = 0 then ((curve_Check.f kj3 bt524.1 bt524.2.1).bind fun t530 => (if t530 = 0 then ((curve_At.f kj3 bt524.1 bt524.2.1 (wrap64 (a2))).bind fun t531 => (standbylaw55_CurvePoints.j1 kj3 (wrap64 (a2)) t522 t523 (t531 != (mn t522 t523)) l0_0 a0_1 l1_0 a1_1)) else (none))) else (standbylaw55_CurvePoints.j1 kj3 (wrap64 (a2)) t522 t523 false l0_0 a0_1 l1_0 a1_1))))) = some r := by rw [if_neg (show ¬ (false = true) by decide)] at H; exact H
    clear H
    have H := H1
    clear H1
    replace H := Option.bind_eq_some_iff.mp H
    obtain ⟨t522, A300, H⟩ := H
    replace H : ((curve_At.f kj3 l1_0 a1_1 (wrap64 (a2))).bind fun t523 => ((curve_Min.f kj3 l0_0 a0_1 l1_0 a1_1).bind fun bt524 => (if bt524.2.2 = 0 then ((curve_Check.f kj3 bt524.1 bt524.2.1).bind fun t530 => (if t530 = 0 then ((curve_At.f kj3 bt524.1 bt524.2.1 (wrap64 (a2))).bind fun t531 => (standbylaw55_CurvePoints.j1 kj3 (wrap64 (a2)) t522 t523 (t531 != (mn t522 t523)) l0_0 a0_1 l1_0 a1_1)) else (none))) else (standbylaw55_CurvePoints.j1 kj3 (wrap64 (a2)) t522 t523 false l0_0 a0_1 l1_0 a1_1)))) = some r := H
    have A30 := Aside0.mk A300
    clear A300
    replace H := Option.bind_eq_some_iff.mp H
    obtain ⟨t523, A310, H⟩ := H
    replace H : ((curve_Min.f kj3 l0_0 a0_1 l1_0 a1_1).bind fun bt524 => (if bt524.2.2 = 0 then ((curve_Check.f kj3 bt524.1 bt524.2.1).bind fun t530 => (if t530 = 0 then ((curve_At.f kj3 bt524.1 bt524.2.1 (wrap64 (a2))).bind fun t531 => (standbylaw55_CurvePoints.j1 kj3 (wrap64 (a2)) t522 t523 (t531 != (mn t522 t523)) l0_0 a0_1 l1_0 a1_1)) else (none))) else (standbylaw55_CurvePoints.j1 kj3 (wrap64 (a2)) t522 t523 false l0_0 a0_1 l1_0 a1_1))) = some r := H
    have A31 := Aside0.mk A310
    clear A310
    replace H := Option.bind_eq_some_iff.mp H
    obtain ⟨⟨t524, t527, t528⟩, A320, H⟩ := H
    replace H : (if t528 = 0 then ((curve_Check.f kj3 t524 t527).bind fun t530 => (if t530 = 0 then ((curve_At.f kj3 t524 t527 (wrap64 (a2))).bind fun t531 => (standbylaw55_CurvePoints.j1 kj3 (wrap64 (a2)) t522 t523 (t531 != (mn t522 t523)) l0_0 a0_1 l1_0 a1_1)) else (none))) else (standbylaw55_CurvePoints.j1 kj3 (wrap64 (a2)) t522 t523 false l0_0 a0_1 l1_0 a1_1)) = some r := H
    have A32 := Aside0.mk A320
    clear A320
    have HC33 := Aside0.mk H
    clear H
    try go_wp2
    have n0_ := Aside0.mk (blk_drew BK514.out)
    have n1_ := Aside0.mk (blk_drew BK515.out)
    have n2_ := Aside0.mk (below_drew1 HB.out)
    clear BK514 BK515 HB
    have BK514 := n0_
    have BK515 := n1_
    have HB := n2_
    clear n0_ n1_ n2_
    refine start_ (n := 8) (S := fun w' => w'.cell? ⟨gb514, 0, none⟩ = some (.slice A0_0 l0_0.length c0_0) ∧ w'.cell? ⟨gb514, 1, none⟩ = some (.int .i64 a0_1) ∧ w'.cell? ⟨gb515, 0, none⟩ = some (.slice A1_0 l1_0.length c1_0) ∧ w'.cell? ⟨gb515, 1, none⟩ = some (.int .i64 a1_1)) (ds := []) #[false, false, false, false, false, false, false, false] (by kernel_rfl) rfl rfl ⟨(blk_cell BK514.out 0).trans rfl, (blk_cell BK514.out 1).trans rfl, (blk_cell BK515.out 0).trans rfl, (blk_cell BK515.out 1).trans rfl⟩ (fun hHeld => ?_); refine with_tabW standbylaw55_CurvePoints.tab4 standbylaw55_CurvePoints.bits4 (fun HT_ HW_ => ?_)
    generalize wc.drew = w34 at BK514 BK515 HB hHeld ⊢
    refine pS (i := 1) (N := some 44) #[false, true, false, false, false, false, false, false] rfl rfl HT_.out ?_
    refine pS (i := 4) (N := some 47) #[false, true, false, false, true, false, false, false] rfl rfl HT_.out ?_
    refine take_ (i := 0) (N := some 43) (v := ?_) (a' := ?_) #[true, true, false, false, true, false, false, false] rfl rfl (take_ofW HT_.out HW_.out (by kernel_rfl)) (fun _ _ _ h => h) (Or.inl ⟨by rfl, ?_⟩) hHeld ?_ ?_; rotate_left
    ·rintro w' ⟨s0, s1, s2, s3⟩
     go_simp
     with_reducible rfl
    rotate_left
    ·simp only [Act.put, List.setIfInBounds_toArray, List.set_cons_zero, List.set_cons_succ, i64_w, i32_w]
     rfl
    refine take_ (i := 3) (N := some 46) (v := ?_) (a' := ?_) #[true, true, false, true, true, false, false, false] rfl rfl (take_ofW HT_.out HW_.out (by kernel_rfl)) (fun _ _ _ h => h) (Or.inl ⟨by rfl, ?_⟩) hHeld ?_ ?_; rotate_left
    ·rintro w' ⟨s0, s1, s2, s3⟩
     go_simp
     with_reducible rfl
    rotate_left
    ·simp only [Act.put, List.setIfInBounds_toArray, List.set_cons_zero, List.set_cons_succ, i64_w, i32_w]
     rfl
    refine one_ (i := 2) (N := some 45) #[true, true, true, true, true, false, false, false] rfl rfl (one_of HT_.out (by kernel_rfl)) (by decide) (fun K hK => ?_)
    refine goes_ Try.func18 (by kernel_rfl) rfl #[.agg #[.slice A0_0 l0_0.length c0_0, .int .i64 a0_1], .int .i64 (wrap64 (a2))] (by rfl) rfl rfl (by (try simp only [List.map_toArray, List.map_cons, List.map_nil]); first | done | rfl | (simp only [List.length_drop, List.length_take]; rfl)) ?_
    with_reducible refine (curve_At.calls kj3 _ _ l0_0 a0_1 (wrap64 (a2)) t522 _ ?side1 ?side2 A30.out).mono ?_
    (case side1 => exact qC HR0_0.out HB.out)
    (case side2 => exact HC0_0.out)
    rintro e w35 ⟨rfl, hb⟩
    refine ⟨_, rfl, ?_⟩
    have n0_ := Aside0.mk (blk_below (qB BK514.out) hb)
    have n1_ := Aside0.mk (blk_below (qB BK515.out) hb)
    have n2_ := Aside0.mk (below_step (qW HB.out) hb)
    clear BK514 BK515 HB
    have BK514 := n0_
    have BK515 := n1_
    have HB := n2_
    clear n0_ n1_ n2_
    (try clear hb); (try clear hb2); (try clear hk); (try clear hi)
    refine hK.out _ _ ⟨(blk_cell BK514.out 0).trans rfl, (blk_cell BK514.out 1).trans rfl, (blk_cell BK515.out 0).trans rfl, (blk_cell BK515.out 1).trans rfl⟩ (fun hHeld => ?_); clear hK K
    refine norm_ (a' := ?_) ?_ ?_; rotate_left
    ·show Act.put _ (some 45) _ = _
     simp only [Act.put, List.setIfInBounds_toArray, List.set_cons_zero, List.set_cons_succ, i64_w, i32_w]
     rfl
    refine one_ (i := 5) (N := some 48) #[true, true, true, true, true, true, false, false] rfl rfl (one_of HT_.out (by kernel_rfl)) (by decide) (fun K hK => ?_)
    refine goes_ Try.func18 (by kernel_rfl) rfl #[.agg #[.slice A1_0 l1_0.length c1_0, .int .i64 a1_1], .int .i64 (wrap64 (a2))] (by rfl) rfl rfl (by (try simp only [List.map_toArray, List.map_cons, List.map_nil]); first | done | rfl | (simp only [List.length_drop, List.length_take]; rfl)) ?_
    with_reducible refine (curve_At.calls kj3 _ _ l1_0 a1_1 (wrap64 (a2)) t523 _ ?side1 ?side2 A31.out).mono ?_
    (case side1 => exact qC HR1_0.out HB.out)
    (case side2 => exact HC1_0.out)
    rintro e w36 ⟨rfl, hb⟩
    refine ⟨_, rfl, ?_⟩
    have n0_ := Aside0.mk (blk_below (qB BK514.out) hb)
    have n1_ := Aside0.mk (blk_below (qB BK515.out) hb)
    have n2_ := Aside0.mk (below_step (qW HB.out) hb)
    clear BK514 BK515 HB
    have BK514 := n0_
    have BK515 := n1_
    have HB := n2_
    clear n0_ n1_ n2_
    (try clear hb); (try clear hb2); (try clear hk); (try clear hi)
    refine hK.out _ _ ⟨(blk_cell BK514.out 0).trans rfl, (blk_cell BK514.out 1).trans rfl, (blk_cell BK515.out 0).trans rfl, (blk_cell BK515.out 1).trans rfl⟩ (fun hHeld => ?_); clear hK K
    refine norm_ (a' := ?_) ?_ ?_; rotate_left
    ·show Act.put _ (some 48) _ = _
     simp only [Act.put, List.setIfInBounds_toArray, List.set_cons_zero, List.set_cons_succ, i64_w, i32_w]
     rfl
    refine pS (i := 6) (N := some 8) #[true, true, true, true, true, true, true, false] rfl rfl HT_.out ?_
    refine pS (i := 7) (N := some 9) #[true, true, true, true, true, true, true, true] rfl rfl HT_.out ?_
    refine done_ (done_of HT_.out (by kernel_rfl)) ?_
    have hnb37 := NB514_515.out
    have hnc37 := NB515_514.out
    have hcz38_0 : w36.cell? ⟨gb514, 0, none⟩ = some (.slice A0_0 l0_0.length c0_0) := (blk_cell BK514.out 0).trans rfl
    have hcz38_1 : w36.cell? ⟨gb514, 1, none⟩ = some (.int .i64 a0_1) := (blk_cell BK514.out 1).trans rfl
    have hfz38_0 := blk_frozen BK514.out 0
    have hfz38_1 := blk_frozen BK514.out 1
    have hcz39_0 : w36.cell? ⟨gb515, 0, none⟩ = some (.slice A1_0 l1_0.length c1_0) := (blk_cell BK515.out 0).trans rfl
    have hcz39_1 : w36.cell? ⟨gb515, 1, none⟩ = some (.int .i64 a1_1) := (blk_cell BK515.out 1).trans rfl
    have hfz39_0 := blk_frozen BK515.out 0
    have hfz39_1 := blk_frozen BK515.out 1
    go_upto_region 6 with (first | ((with_reducible refine gate_callee (f := 30) rfl ?_); refine goesL_ (some 52) rfl rfl Try.func30 (by kernel_rfl) rfl #[.agg #[.slice A0_0 l0_0.length c0_0, .int .i64 a0_1], .agg #[.slice A1_0 l1_0.length c1_0, .int .i64 a1_1]] rfl (by (try simp only [List.map_toArray, List.map_cons, List.map_nil]); first | done | rfl | (simp only [List.length_drop, List.length_take]; rfl)) ?_; (with_reducible refine (curve_Min.calls kj3 _ _ l0_0 a0_1 _ _ l1_0 a1_1 t524 t527 t528 _ ?side1 ?side2 ?side3 ?side4 A32.out).mono ?_); (case side1 => exact qC HR0_0.out HB.out); (case side2 => exact HC0_0.out); (case side3 => exact qC HR1_0.out HB.out); (case side4 => exact HC1_0.out); rintro e w40 ⟨v525, rfl, ho0, hb⟩; refine ⟨_, rfl, ?_⟩; have n0_ := Aside0.mk (Kd.R_lower ho0 (below_size (qW HB.out))); have n1_ := Aside0.mk (blk_below (qB BK514.out) hb); have n2_ := Aside0.mk (blk_below (qB BK515.out) hb); have n3_ := Aside0.mk (below_step (qW HB.out) hb); clear BK514 BK515 HB; have HO526 := n0_; have BK514 := n1_; have BK515 := n2_; have HB := n3_; clear n0_ n1_ n2_ n3_; (try clear hb); (try clear hb2); (try clear hk); (try clear hi); (try clear ho0)) | ((with_reducible refine gate_dst (N := 10) rfl ?_); (try (refine gate_guard (by rfl) ?_; dsimp only)); refine box_event ?hg (N := 10) ?hd (cs := #[.slice none 0 0, .int .i64 0]) (t := 24) ?hr ?_; (case hd => rfl); (case hg => rfl); (case hr => first | (go_simp; done) | (go_simp; rfl)); intro gb529 hg w41 hbox hb; have n0_ := Aside0.mk (Kd.R_below (qR HO526.out) hb); have n1_ := Aside0.mk (blk_below (qB BK514.out) hb); have n2_ := Aside0.mk (blk_below (qB BK515.out) hb); have n3_ := Aside0.mk (below_step (qW HB.out) hb); have n4_ := Aside0.mk (hbox); have n5_ := Aside0.mk ((by rw [hg]; exact (below_size (qW HB.out)) : w.heap.size ≤ gb529)); have n6_ := Aside0.mk ((by rw [hg]; exact (below_size (qW HB.out)) : w.heap.size ≤ gb529)); have n7_ := Aside0.mk ((by rw [hg]; exact Nat.ne_of_lt (blk_lt (qB BK514.out)) : gb514 ≠ gb529)); have n8_ := Aside0.mk ((by rw [hg]; exact Nat.ne_of_gt (blk_lt (qB BK514.out)) : gb529 ≠ gb514)); have n9_ := Aside0.mk ((by rw [hg]; exact Nat.ne_of_lt (blk_lt (qB BK515.out)) : gb515 ≠ gb529)); have n10_ := Aside0.mk ((by rw [hg]; exact Nat.ne_of_gt (blk_lt (qB BK515.out)) : gb529 ≠ gb515)); clear HO526 BK514 BK515 HB; have HO526 := n0_; have BK514 := n1_; have BK515 := n2_; have HB := n3_; have BK529 := n4_; have GW529 := n5_; have GE529 := n6_; have NB514_529 := n7_; have NB529_514 := n8_; have NB515_529 := n9_; have NB529_515 := n10_; clear n0_ n1_ n2_ n3_ n4_ n5_ n6_ n7_ n8_ n9_ n10_ hb hbox hg; obtain ⟨Ao42, co42, eo42⟩ := Kd.R_slice HO526.out; subst eo42; have hnb43 := NB529_514.out; have hnc43 := NB514_529.out; have hnb44 := NB529_515.out; have hnc44 := NB515_529.out; have hcz45_0 : w41.cell? ⟨gb529, 0, none⟩ = some (.slice none 0 0) := (blk_cell BK529.out 0).trans rfl; have hcz45_1 : w41.cell? ⟨gb529, 1, none⟩ = some (.int .i64 0) := (blk_cell BK529.out 1).trans rfl; have hfz45_0 := blk_frozen BK529.out 0; have hfz45_1 := blk_frozen BK529.out 1))
    (try simp only [Act.put, List.setIfInBounds_toArray, List.set_cons_zero, List.set_cons_succ])
    go_cut [70] (fun v70 wc => ∃ (kq : Nat) (x70_32 : Bool), v70 = .bool x70_32 ∧ Aside0 (standbylaw55_CurvePoints.j1 kq (wrap64 (a2)) t522 t523 x70_32 l0_0 a0_1 l1_0 a1_1 = some r) ∧ Aside0 (kq ≤ kj3) ∧ Aside0 (Kd.R (Kd.int .i64) 3 wc w.heap.size (fun _ => True) (.slice Ao42 t524.length co42) t524) ∧ Aside0 (wc.heap[gb514]? = some (.cells #[(.slice A0_0 l0_0.length c0_0), .int .i64 a0_1] 24 (0, 0))) ∧ Aside0 (wc.heap[gb515]? = some (.cells #[(.slice A1_0 l1_0.length c1_0), .int .i64 a1_1] 24 (0, 0))) ∧ Aside0 (wc.heap[gb529]? = some (.cells #[(.slice Ao42 t524.length co42), .int .i64 t527] 24 (0, 0))) ∧ Aside0 (Below w.heap.size w wc))
    case first =>
     have H := HC33.out
     clear HC33
     by_cases c46 : t528 = 0
     case neg =>
      rw [if_neg c46] at H
      have c46b0 : (t528 == 0) = false := beq_eq_false_iff_ne.mpr c46
      have c46b1 : (t528 != 0) = true := bne_iff_ne.mpr c46
      (first | rw [c46b0] | (simp only [i64_w, i32_w]; rw [c46b0]) | skip)
      have H' := Aside0.mk H
      clear H
      go_wp2
      go_meet
      case rel => exact ⟨_, (false), (by first | rfl | (simp; done) | (simp [*]; done)), H', ⟨by have := HJ3.out; first | omega | exact Nat.le_refl _⟩, ⟨by exact qR (Kd.R_mono (Kd.R_far (p := ⟨gb529, 1, none⟩) (Kd.R_far (p := ⟨gb529, 0, none⟩) (Kd.R_types HO526.out BK529.out (by decide)) (fun _ hk => hk.2) (.slice Ao42 t524.length co42)) (fun _ hk => hk.2) (.int .i64 t527)) (fun _ hk => trivial))⟩, ⟨by (with_reducible repeat (first | refine blk_drewN ?_ _ | refine blk_drew ?_ | refine blk_alloc ?_ _)); refine blk_far ?_ NB514_529.out _; (with_reducible repeat (first | refine blk_drewN ?_ _ | refine blk_drew ?_ | refine blk_alloc ?_ _)); refine blk_far ?_ NB514_529.out _; exact qB BK514.out⟩, ⟨by (with_reducible repeat (first | refine blk_drewN ?_ _ | refine blk_drew ?_ | refine blk_alloc ?_ _)); refine blk_far ?_ NB515_529.out _; (with_reducible repeat (first | refine blk_drewN ?_ _ | refine blk_drew ?_ | refine blk_alloc ?_ _)); refine blk_far ?_ NB515_529.out _; exact qB BK515.out⟩, ⟨by (with_reducible repeat (first | refine blk_drewN ?_ _ | refine blk_drew ?_ | refine blk_alloc ?_ _)); refine blk_put (cs := #[.slice Ao42 t524.length co42, .int .i64 0]) ?_ 1 _ rfl; (with_reducible repeat (first | refine blk_drewN ?_ _ | refine blk_drew ?_ | refine blk_alloc ?_ _)); refine blk_put (cs := #[.slice none 0 0, .int .i64 0]) ?_ 0 _ rfl; exact qB BK529.out⟩, ⟨by repeat (first | (with_reducible first | exact HB.out | apply below_alloc | apply pw_below_drewN | apply below_drew1 | refine below_set ?_ GE514.out | refine below_set ?_ GE515.out | refine below_set ?_ GE529.out) | exact HB.out)⟩⟩
     rw [if_pos c46] at H
     have c46b0 : (t528 == 0) = true := beq_iff_eq.mpr c46
     have c46b1 : (t528 != 0) = false := bne_eq_false_iff_eq.mpr c46
     clear c46
     (first | rw [c46b0] | (simp only [i64_w, i32_w]; rw [c46b0]) | skip)
     replace H := Option.bind_eq_some_iff.mp H
     obtain ⟨t530, A470, H⟩ := H
     replace H : (if t530 = 0 then ((curve_At.f kj3 t524 t527 (wrap64 (a2))).bind fun t531 => (standbylaw55_CurvePoints.j1 kj3 (wrap64 (a2)) t522 t523 (t531 != (mn t522 t523)) l0_0 a0_1 l1_0 a1_1)) else (none)) = some r := H
     have A47 := Aside0.mk A470
     clear A470
     by_cases c48 : t530 = 0
     case neg =>
      rw [if_neg c48] at H
      exact absurd H (by simp)
     rw [if_pos c48] at H
     have c48b0 : (t530 == 0) = true := beq_iff_eq.mpr c48
     have c48b1 : (t530 != 0) = false := bne_eq_false_iff_eq.mpr c48
     clear c48
     replace H := Option.bind_eq_some_iff.mp H
     obtain ⟨t531, A490, H⟩ := H
     replace H : (standbylaw55_CurvePoints.j1 kj3 (wrap64 (a2)) t522 t523 (t531 != (mn t522 t523)) l0_0 a0_1 l1_0 a1_1) = some r := H
     have A49 := Aside0.mk A490
     clear A490
     obtain ⟨ji50, hji50⟩ : ∃ j_ : Int, (mn t522 t523) = j_ := ⟨_, rfl⟩
     replace H : (standbylaw55_CurvePoints.j1 kj3 (wrap64 (a2)) t522 t523 (t531 != (ji50)) l0_0 a0_1 l1_0 a1_1) = some r := by first | (rw [hji50] at H; exact H) | (simp only [hji50] at H ⊢; exact H)
     (try rw [hji50] at A47)
     (try rw [hji50] at A49)
     have hji50_ : (if t523 < t522 then t523 else t522) = ji50 := hji50
     have H' := Aside0.mk H
     clear H
     have hnb51 := NB529_514.out
     have hnc51 := NB514_529.out
     have hnb52 := NB529_515.out
     have hnc52 := NB515_529.out
     have hcz53_0 : w41.cell? ⟨gb529, 0, none⟩ = some (.slice none 0 0) := (blk_cell BK529.out 0).trans rfl
     have hcz53_1 : w41.cell? ⟨gb529, 1, none⟩ = some (.int .i64 0) := (blk_cell BK529.out 1).trans rfl
     have hfz53_0 := blk_frozen BK529.out 0
     have hfz53_1 := blk_frozen BK529.out 1
     go_wp2_with (first | (go_at_call 16; (with_reducible refine (curve_Check.calls kj3 _ _ t524 t527 t530 _ ?side1 ?side2 A47.out).mono ?_); (case side1 => refine (Kd.R_reads' (e := 3) (base := w.heap.size) (ok := fun k_ => True) (n := t524.length) (c := co42) ?_).2.2; exact (qR (Kd.R_mono (Kd.R_far (p := ⟨gb529, 1, none⟩) (Kd.R_far (p := ⟨gb529, 0, none⟩) (Kd.R_types HO526.out BK529.out (by decide)) (fun _ hk => hk.2) (.slice Ao42 t524.length co42)) (fun _ hk => hk.2) (.int .i64 t527)) (fun _ h_ => h_.1)))); (case side2 => exact (Kd.R_reads' HO526.out).2.1); rintro e w54 ⟨rfl, hb⟩; have n0_ := Aside0.mk (Kd.R_below (qR (Kd.R_mono (Kd.R_far (p := ⟨gb529, 1, none⟩) (Kd.R_far (p := ⟨gb529, 0, none⟩) (Kd.R_types HO526.out BK529.out (by decide)) (fun _ hk => hk.2) (.slice Ao42 t524.length co42)) (fun _ hk => hk.2) (.int .i64 t527)) (fun _ h_ => h_.1))) hb); have n1_ := Aside0.mk (blk_below (g := gb514) (o := .cells #[.slice A0_0 l0_0.length c0_0, .int .i64 a0_1] 24 (0, 0)) (by (with_reducible repeat (first | refine blk_drewN ?_ _ | refine blk_drew ?_ | refine blk_alloc ?_ _)); refine blk_far ?_ NB514_529.out _; (with_reducible repeat (first | refine blk_drewN ?_ _ | refine blk_drew ?_ | refine blk_alloc ?_ _)); refine blk_far ?_ NB514_529.out _; exact qB BK514.out) hb); have n2_ := Aside0.mk (blk_below (g := gb515) (o := .cells #[.slice A1_0 l1_0.length c1_0, .int .i64 a1_1] 24 (0, 0)) (by (with_reducible repeat (first | refine blk_drewN ?_ _ | refine blk_drew ?_ | refine blk_alloc ?_ _)); refine blk_far ?_ NB515_529.out _; (with_reducible repeat (first | refine blk_drewN ?_ _ | refine blk_drew ?_ | refine blk_alloc ?_ _)); refine blk_far ?_ NB515_529.out _; exact qB BK515.out) hb); have n3_ := Aside0.mk (blk_below (g := gb529) (o := .cells #[.slice Ao42 t524.length co42, .int .i64 t527] 24 (0, 0)) (by (with_reducible repeat (first | refine blk_drewN ?_ _ | refine blk_drew ?_ | refine blk_alloc ?_ _)); refine blk_put (cs := #[.slice Ao42 t524.length co42, .int .i64 0]) ?_ 1 _ rfl; (with_reducible repeat (first | refine blk_drewN ?_ _ | refine blk_drew ?_ | refine blk_alloc ?_ _)); refine blk_put (cs := #[.slice none 0 0, .int .i64 0]) ?_ 0 _ rfl; exact qB BK529.out) hb); have n4_ := Aside0.mk (below_step (qW HB.out) hb); clear HO526 BK514 BK515 BK529 HB; have HO526 := n0_; have BK514 := n1_; have BK515 := n2_; have BK529 := n3_; have HB := n4_; clear n0_ n1_ n2_ n3_ n4_; (try clear hb); (try clear hb2); (try clear hk); (try clear hi); have hcz55_0 : w54.cell? ⟨gb529, 0, none⟩ = some (.slice Ao42 t524.length co42) := (blk_cell BK529.out 0).trans rfl; have hcz55_1 : w54.cell? ⟨gb529, 1, none⟩ = some (.int .i64 t527) := (blk_cell BK529.out 1).trans rfl; have hfz55_0 := blk_frozen BK529.out 0; have hfz55_1 := blk_frozen BK529.out 1) | (go_at_call 18; (with_reducible refine (curve_At.calls kj3 _ _ t524 t527 (wrap64 (a2)) t531 _ ?side1 ?side2 A49.out).mono ?_); (case side1 => repeat (first | exact (Kd.R_reads' HO526.out).2.2 | (with_reducible refine Kd.C_alloc ?_ _) | (with_reducible refine Kd.C_drewN ?_ _) | (with_reducible refine Kd.C_drew ?_))); (case side2 => exact (Kd.R_reads' HO526.out).2.1); rintro e w56 ⟨rfl, hb⟩; have n0_ := Aside0.mk (Kd.R_below (qR HO526.out) hb); have n1_ := Aside0.mk (blk_below (qB BK514.out) hb); have n2_ := Aside0.mk (blk_below (qB BK515.out) hb); have n3_ := Aside0.mk (blk_below (qB BK529.out) hb); have n4_ := Aside0.mk (below_step (qW HB.out) hb); clear HO526 BK514 BK515 BK529 HB; have HO526 := n0_; have BK514 := n1_; have BK515 := n2_; have BK529 := n3_; have HB := n4_; clear n0_ n1_ n2_ n3_ n4_; (try clear hb); (try clear hb2); (try clear hk); (try clear hi)))
     go_meet
     case rel => exact ⟨_, ((t531 != (ji50))), (by first | rfl | (simp; done) | (simp only [← hji50] <;> (first | rfl | simp)) | (simp [*]; done)), H', ⟨by have := HJ3.out; first | omega | exact Nat.le_refl _⟩, ⟨by exact qR HO526.out⟩, ⟨by exact qB BK514.out⟩, ⟨by exact qB BK515.out⟩, ⟨by exact qB BK529.out⟩, ⟨by repeat (first | (with_reducible first | exact HB.out | apply below_alloc | apply pw_below_drewN | apply below_drew1 | refine below_set ?_ GE514.out | refine below_set ?_ GE515.out | refine below_set ?_ GE529.out) | exact HB.out)⟩⟩
    case rest =>
     clear HC33
     try clear c1
     try clear c2
     try clear p2
     try clear c3
     try clear c4
     try clear c5
     try clear p6
     try clear c7
     try clear c7b0
     try clear c7b1
     try clear c8
     try clear c10
     try clear c10b0
     try clear c10b1
     try clear c11
     try clear c15
     try clear c15b0
     try clear c15b1
     try clear c17
     try clear c18
     try clear c23
     try clear c27
     try clear c30
     try clear c37
     try clear c43
     try clear c44
     try clear c46
     try clear c46b0
     try clear c46b1
     try clear c48
     try clear c48b0
     try clear c48b1
     try clear c51
     try clear c52
     try clear hcz12_0
     try clear hcz12_1
     try clear hcz13_0
     try clear hcz13_1
     try clear hcz18_0
     try clear hcz18_1
     try clear hcz19_0
     try clear hcz19_1
     try clear hcz21_0
     try clear hcz21_1
     try clear hcz24_0
     try clear hcz24_1
     try clear hcz25_0
     try clear hcz25_1
     try clear hcz38_0
     try clear hcz38_1
     try clear hcz39_0
     try clear hcz39_1
     try clear hcz45_0
     try clear hcz45_1
     try clear hcz53_0
     try clear hcz53_1
     try clear hcz55_0
     try clear hcz55_1
     try clear hcz9_0
     try clear hcz9_1
     try clear hfz12_0
     try clear hfz12_1
     try clear hfz13_0
     try clear hfz13_1
     try clear hfz18_0
     try clear hfz18_1
     try clear hfz19_0
     try clear hfz19_1
     try clear hfz21_0
     try clear hfz21_1
     try clear hfz24_0
     try clear hfz24_1
     try clear hfz25_0
     try clear hfz25_1
     try clear hfz38_0
     try clear hfz38_1
     try clear hfz39_0
     try clear hfz39_1
     try clear hfz45_0
     try clear hfz45_1
     try clear hfz53_0
     try clear hfz53_1
     try clear hfz55_0
     try clear hfz55_1
     try clear hfz9_0
     try clear hfz9_1
     try clear p2
     obtain ⟨kq, x70_32, rfl, HA, HJ32, HO_530000, BK514, BK515, BK529, HB⟩ := hcut
     cases kq with
     | zero => exact absurd HA.out (by simp [standbylaw55_CurvePoints.j1])
     | succ kj32 =>
      have H := HA.out
      clear HA
      simp only [standbylaw55_CurvePoints.j1] at H
      by_cases c57 : x70_32 = true
      ·subst c57
       have H1 : (none) = some r := by rw [if_pos rfl] at H; exact H
       clear H
       have H := H1
       clear H1
       exact absurd H (by simp)
      ·replace c57 := Bool.eq_false_iff.mpr c57
       subst c57
       have H1 : ((curve_Add.f kj32 l0_0 a0_1 l1_0 a1_1).bind fun bt532 => (if bt532.2.2 = 0 then ((curve_Check.f kj32 bt532.1 bt532.2.1).bind fun t538 => (if t538 = 0 then ((curve_At.f kj32 bt532.1 bt532.2.1 (wrap64 (a2))).bind fun t539 => (standbylaw55_CurvePoints.j2 kj32 (wrap64 (a2)) (t539 != (wrap64 (t522 + t523))) l0_0 a0_1 l1_0 a1_1)) else (none))) else (standbylaw55_CurvePoints.j2 kj32 (wrap64 (a2)) false l0_0 a0_1 l1_0 a1_1))) = some r := by rw [if_neg (show ¬ (false = true) by decide)] at H; exact H
       clear H
       have H := H1
       clear H1
       replace H := Option.bind_eq_some_iff.mp H
       obtain ⟨⟨t532, t535, t536⟩, A580, H⟩ := H
       replace H : (if t536 = 0 then ((curve_Check.f kj32 t532 t535).bind fun t538 => (if t538 = 0 then ((curve_At.f kj32 t532 t535 (wrap64 (a2))).bind fun t539 => (standbylaw55_CurvePoints.j2 kj32 (wrap64 (a2)) (t539 != (wrap64 (t522 + t523))) l0_0 a0_1 l1_0 a1_1)) else (none))) else (standbylaw55_CurvePoints.j2 kj32 (wrap64 (a2)) false l0_0 a0_1 l1_0 a1_1)) = some r := H
       have A58 := Aside0.mk A580
       clear A580
       have HC59 := Aside0.mk H
       clear H
       have hnb60 := NB514_515.out
       have hnc60 := NB515_514.out
       have hnb61 := NB514_529.out
       have hnc61 := NB529_514.out
       have hcz62_0 : wc.cell? ⟨gb514, 0, none⟩ = some (.slice A0_0 l0_0.length c0_0) := (blk_cell BK514.out 0).trans rfl
       have hcz62_1 : wc.cell? ⟨gb514, 1, none⟩ = some (.int .i64 a0_1) := (blk_cell BK514.out 1).trans rfl
       have hfz62_0 := blk_frozen BK514.out 0
       have hfz62_1 := blk_frozen BK514.out 1
       have hnb63 := NB515_529.out
       have hnc63 := NB529_515.out
       have hcz64_0 : wc.cell? ⟨gb515, 0, none⟩ = some (.slice A1_0 l1_0.length c1_0) := (blk_cell BK515.out 0).trans rfl
       have hcz64_1 : wc.cell? ⟨gb515, 1, none⟩ = some (.int .i64 a1_1) := (blk_cell BK515.out 1).trans rfl
       have hfz64_0 := blk_frozen BK515.out 0
       have hfz64_1 := blk_frozen BK515.out 1
       go_upto_region 9 with (first | ((with_reducible refine gate_callee (f := 32) rfl ?_); refine goesL_ (some 74) rfl rfl Try.func32 (by kernel_rfl) rfl #[.agg #[.slice A0_0 l0_0.length c0_0, .int .i64 a0_1], .agg #[.slice A1_0 l1_0.length c1_0, .int .i64 a1_1]] rfl (by (try simp only [List.map_toArray, List.map_cons, List.map_nil]); first | done | rfl | (simp only [List.length_drop, List.length_take]; rfl)) ?_; (with_reducible refine (curve_Add.calls kj32 _ _ l0_0 a0_1 _ _ l1_0 a1_1 t532 t535 t536 _ ?side1 ?side2 ?side3 ?side4 A58.out).mono ?_); (case side1 => exact qC HR0_0.out HB.out); (case side2 => exact HC0_0.out); (case side3 => exact qC HR1_0.out HB.out); (case side4 => exact HC1_0.out); rintro e w65 ⟨v533, rfl, ho0, hb⟩; refine ⟨_, rfl, ?_⟩; have n0_ := Aside0.mk (Kd.R_elder' (qR HO_530000.out) (Kd.R_base ho0) hb); have n1_ := Aside0.mk (Kd.R_lower (Kd.R_new' ho0 (Kd.R_lt (qR HO_530000.out))) (below_size (qW HB.out))); have n2_ := Aside0.mk (blk_below (qB BK514.out) hb); have n3_ := Aside0.mk (blk_below (qB BK515.out) hb); have n4_ := Aside0.mk (blk_below (qB BK529.out) hb); have n5_ := Aside0.mk (below_step (qW HB.out) hb); clear HO_530000 BK514 BK515 BK529 HB; have HO_530000 := n0_; have HO534 := n1_; have BK514 := n2_; have BK515 := n3_; have BK529 := n4_; have HB := n5_; clear n0_ n1_ n2_ n3_ n4_ n5_; (try clear hb); (try clear hb2); (try clear hk); (try clear hi); (try clear ho0)) | ((with_reducible refine gate_dst (N := 12) rfl ?_); (try (refine gate_guard (by rfl) ?_; dsimp only)); refine box_event ?hg (N := 12) ?hd (cs := #[.slice none 0 0, .int .i64 0]) (t := 24) ?hr ?_; (case hd => rfl); (case hg => rfl); (case hr => first | (go_simp; done) | (go_simp; rfl)); intro gb537 hg w66 hbox hb; have n0_ := Aside0.mk (Kd.R_below (qR HO_530000.out) hb); have n1_ := Aside0.mk (Kd.R_below (qR HO534.out) hb); have n2_ := Aside0.mk (blk_below (qB BK514.out) hb); have n3_ := Aside0.mk (blk_below (qB BK515.out) hb); have n4_ := Aside0.mk (blk_below (qB BK529.out) hb); have n5_ := Aside0.mk (below_step (qW HB.out) hb); have n6_ := Aside0.mk (hbox); have n7_ := Aside0.mk ((by rw [hg]; exact (below_size (qW HB.out)) : w.heap.size ≤ gb537)); have n8_ := Aside0.mk ((by rw [hg]; exact (below_size (qW HB.out)) : w.heap.size ≤ gb537)); have n9_ := Aside0.mk ((by rw [hg]; exact Nat.ne_of_lt (blk_lt (qB BK514.out)) : gb514 ≠ gb537)); have n10_ := Aside0.mk ((by rw [hg]; exact Nat.ne_of_gt (blk_lt (qB BK514.out)) : gb537 ≠ gb514)); have n11_ := Aside0.mk ((by rw [hg]; exact Nat.ne_of_lt (blk_lt (qB BK515.out)) : gb515 ≠ gb537)); have n12_ := Aside0.mk ((by rw [hg]; exact Nat.ne_of_gt (blk_lt (qB BK515.out)) : gb537 ≠ gb515)); have n13_ := Aside0.mk ((by rw [hg]; exact Nat.ne_of_lt (blk_lt (qB BK529.out)) : gb529 ≠ gb537)); have n14_ := Aside0.mk ((by rw [hg]; exact Nat.ne_of_gt (blk_lt (qB BK529.out)) : gb537 ≠ gb529)); clear HO_530000 HO534 BK514 BK515 BK529 HB; have HO_530000 := n0_; have HO534 := n1_; have BK514 := n2_; have BK515 := n3_; have BK529 := n4_; have HB := n5_; have BK537 := n6_; have GW537 := n7_; have GE537 := n8_; have NB514_537 := n9_; have NB537_514 := n10_; have NB515_537 := n11_; have NB537_515 := n12_; have NB529_537 := n13_; have NB537_529 := n14_; clear n0_ n1_ n2_ n3_ n4_ n5_ n6_ n7_ n8_ n9_ n10_ n11_ n12_ n13_ n14_ hb hbox hg; obtain ⟨Ao67, co67, eo67⟩ := Kd.R_slice HO534.out; subst eo67; have hnb68 := NB537_514.out; have hnc68 := NB514_537.out; have hnb69 := NB537_515.out; have hnc69 := NB515_537.out; have hnb70 := NB537_529.out; have hnc70 := NB529_537.out; have hcz71_0 : w66.cell? ⟨gb537, 0, none⟩ = some (.slice none 0 0) := (blk_cell BK537.out 0).trans rfl; have hcz71_1 : w66.cell? ⟨gb537, 1, none⟩ = some (.int .i64 0) := (blk_cell BK537.out 1).trans rfl; have hfz71_0 := blk_frozen BK537.out 0; have hfz71_1 := blk_frozen BK537.out 1))
       (try simp only [Act.put, List.setIfInBounds_toArray, List.set_cons_zero, List.set_cons_succ])
       go_cut [92] (fun v92 wc => ∃ (kq : Nat) (x92_58 : Bool), v92 = .bool x92_58 ∧ Aside0 (standbylaw55_CurvePoints.j2 kq (wrap64 (a2)) x92_58 l0_0 a0_1 l1_0 a1_1 = some r) ∧ Aside0 (kq ≤ kj32) ∧ Aside0 (Kd.R (Kd.int .i64) 3 wc w.heap.size (fun k_ => some k_ ≠ ((.slice Ao67 t532.length co67) : Value).ownBlock) (.slice Ao42 t524.length co42) t524) ∧ Aside0 (Kd.R (Kd.int .i64) 3 wc w.heap.size (fun k_ => some k_ ≠ ((.slice Ao42 t524.length co42) : Value).ownBlock) (.slice Ao67 t532.length co67) t532) ∧ Aside0 (wc.heap[gb514]? = some (.cells #[(.slice A0_0 l0_0.length c0_0), .int .i64 a0_1] 24 (0, 0))) ∧ Aside0 (wc.heap[gb515]? = some (.cells #[(.slice A1_0 l1_0.length c1_0), .int .i64 a1_1] 24 (0, 0))) ∧ Aside0 (wc.heap[gb529]? = some (.cells #[(.slice Ao42 t524.length co42), .int .i64 t527] 24 (0, 0))) ∧ Aside0 (wc.heap[gb537]? = some (.cells #[(.slice Ao67 t532.length co67), .int .i64 t535] 24 (0, 0))) ∧ Aside0 (Below w.heap.size w wc))
       case first =>
        have H := HC59.out
        clear HC59
        by_cases c72 : t536 = 0
        case neg =>
         rw [if_neg c72] at H
         have c72b0 : (t536 == 0) = false := beq_eq_false_iff_ne.mpr c72
         have c72b1 : (t536 != 0) = true := bne_iff_ne.mpr c72
         (first | rw [c72b0] | (simp only [i64_w, i32_w]; rw [c72b0]) | skip)
         have H' := Aside0.mk H
         clear H
         go_wp2
         go_meet
         case rel => exact ⟨_, (false), (by first | rfl | (simp; done) | (simp [*]; done)), H', ⟨by have := HJ3.out; have := HJ32.out; first | omega | exact Nat.le_refl _⟩, ⟨by exact qR (Kd.R_mono (Kd.R_far (p := ⟨gb537, 1, none⟩) (Kd.R_far (p := ⟨gb537, 0, none⟩) (Kd.R_types HO_530000.out BK537.out (by decide)) (fun _ hk => hk.2) (.slice Ao67 t532.length co67)) (fun _ hk => hk.2) (.int .i64 t535)) (fun _ hk => hk.1.2))⟩, ⟨by exact qR (Kd.R_mono (Kd.R_far (p := ⟨gb537, 1, none⟩) (Kd.R_far (p := ⟨gb537, 0, none⟩) (Kd.R_types HO534.out BK537.out (by decide)) (fun _ hk => hk.2) (.slice Ao67 t532.length co67)) (fun _ hk => hk.2) (.int .i64 t535)) (fun _ hk => hk.1.2))⟩, ⟨by (with_reducible repeat (first | refine blk_drewN ?_ _ | refine blk_drew ?_ | refine blk_alloc ?_ _)); refine blk_far ?_ NB514_537.out _; (with_reducible repeat (first | refine blk_drewN ?_ _ | refine blk_drew ?_ | refine blk_alloc ?_ _)); refine blk_far ?_ NB514_537.out _; exact qB BK514.out⟩, ⟨by (with_reducible repeat (first | refine blk_drewN ?_ _ | refine blk_drew ?_ | refine blk_alloc ?_ _)); refine blk_far ?_ NB515_537.out _; (with_reducible repeat (first | refine blk_drewN ?_ _ | refine blk_drew ?_ | refine blk_alloc ?_ _)); refine blk_far ?_ NB515_537.out _; exact qB BK515.out⟩, ⟨by (with_reducible repeat (first | refine blk_drewN ?_ _ | refine blk_drew ?_ | refine blk_alloc ?_ _)); refine blk_far ?_ NB529_537.out _; (with_reducible repeat (first | refine blk_drewN ?_ _ | refine blk_drew ?_ | refine blk_alloc ?_ _)); refine blk_far ?_ NB529_537.out _; exact qB BK529.out⟩, ⟨by (with_reducible repeat (first | refine blk_drewN ?_ _ | refine blk_drew ?_ | refine blk_alloc ?_ _)); refine blk_put (cs := #[.slice Ao67 t532.length co67, .int .i64 0]) ?_ 1 _ rfl; (with_reducible repeat (first | refine blk_drewN ?_ _ | refine blk_drew ?_ | refine blk_alloc ?_ _)); refine blk_put (cs := #[.slice none 0 0, .int .i64 0]) ?_ 0 _ rfl; exact qB BK537.out⟩, ⟨by repeat (first | (with_reducible first | exact HB.out | apply below_alloc | apply pw_below_drewN | apply below_drew1 | refine below_set ?_ GE514.out | refine below_set ?_ GE515.out | refine below_set ?_ GE529.out | refine below_set ?_ GE537.out) | exact HB.out)⟩⟩
        rw [if_pos c72] at H
        have c72b0 : (t536 == 0) = true := beq_iff_eq.mpr c72
        have c72b1 : (t536 != 0) = false := bne_eq_false_iff_eq.mpr c72
        clear c72
        (first | rw [c72b0] | (simp only [i64_w, i32_w]; rw [c72b0]) | skip)
        replace H := Option.bind_eq_some_iff.mp H
        obtain ⟨t538, A730, H⟩ := H
        replace H : (if t538 = 0 then ((curve_At.f kj32 t532 t535 (wrap64 (a2))).bind fun t539 => (standbylaw55_CurvePoints.j2 kj32 (wrap64 (a2)) (t539 != (wrap64 (t522 + t523))) l0_0 a0_1 l1_0 a1_1)) else (none)) = some r := H
        have A73 := Aside0.mk A730
        clear A730
        by_cases c74 : t538 = 0
        case neg =>
         rw [if_neg c74] at H
         exact absurd H (by simp)
        rw [if_pos c74] at H
        have c74b0 : (t538 == 0) = true := beq_iff_eq.mpr c74
        have c74b1 : (t538 != 0) = false := bne_eq_false_iff_eq.mpr c74
        clear c74
        replace H := Option.bind_eq_some_iff.mp H
        obtain ⟨t539, A750, H⟩ := H
        replace H : (standbylaw55_CurvePoints.j2 kj32 (wrap64 (a2)) (t539 != (wrap64 (t522 + t523))) l0_0 a0_1 l1_0 a1_1) = some r := H
        have A75 := Aside0.mk A750
        clear A750
        have H' := Aside0.mk H
        clear H
        have hnb76 := NB537_514.out
        have hnc76 := NB514_537.out
        have hnb77 := NB537_515.out
        have hnc77 := NB515_537.out
        have hnb78 := NB537_529.out
        have hnc78 := NB529_537.out
        have hcz79_0 : w66.cell? ⟨gb537, 0, none⟩ = some (.slice none 0 0) := (blk_cell BK537.out 0).trans rfl
        have hcz79_1 : w66.cell? ⟨gb537, 1, none⟩ = some (.int .i64 0) := (blk_cell BK537.out 1).trans rfl
        have hfz79_0 := blk_frozen BK537.out 0
        have hfz79_1 := blk_frozen BK537.out 1
        go_wp2_with (first | (go_at_call 16; (with_reducible refine (curve_Check.calls kj32 _ _ t532 t535 t538 _ ?side1 ?side2 A73.out).mono ?_); (case side1 => refine (Kd.R_reads' (e := 3) (base := w.heap.size) (ok := fun k_ => (True ∧ some k_ ≠ (.slice Ao42 t524.length co42 : Value).ownBlock)) (n := t532.length) (c := co67) ?_).2.2; exact (qR (Kd.R_mono (Kd.R_far (p := ⟨gb537, 1, none⟩) (Kd.R_far (p := ⟨gb537, 0, none⟩) (Kd.R_types HO534.out BK537.out (by decide)) (fun _ hk => hk.2) (.slice Ao67 t532.length co67)) (fun _ hk => hk.2) (.int .i64 t535)) (fun _ h_ => h_.1)))); (case side2 => exact (Kd.R_reads' HO534.out).2.1); rintro e w80 ⟨rfl, hb⟩; have n0_ := Aside0.mk (Kd.R_below (qR (Kd.R_mono (Kd.R_far (p := ⟨gb537, 1, none⟩) (Kd.R_far (p := ⟨gb537, 0, none⟩) (Kd.R_types HO_530000.out BK537.out (by decide)) (fun _ hk => hk.2) (.slice Ao67 t532.length co67)) (fun _ hk => hk.2) (.int .i64 t535)) (fun _ h_ => h_.1))) hb); have n1_ := Aside0.mk (Kd.R_below (qR (Kd.R_mono (Kd.R_far (p := ⟨gb537, 1, none⟩) (Kd.R_far (p := ⟨gb537, 0, none⟩) (Kd.R_types HO534.out BK537.out (by decide)) (fun _ hk => hk.2) (.slice Ao67 t532.length co67)) (fun _ hk => hk.2) (.int .i64 t535)) (fun _ h_ => h_.1))) hb); have n2_ := Aside0.mk (blk_below (g := gb514) (o := .cells #[.slice A0_0 l0_0.length c0_0, .int .i64 a0_1] 24 (0, 0)) (by (with_reducible repeat (first | refine blk_drewN ?_ _ | refine blk_drew ?_ | refine blk_alloc ?_ _)); refine blk_far ?_ NB514_537.out _; (with_reducible repeat (first | refine blk_drewN ?_ _ | refine blk_drew ?_ | refine blk_alloc ?_ _)); refine blk_far ?_ NB514_537.out _; exact qB BK514.out) hb); have n3_ := Aside0.mk (blk_below (g := gb515) (o := .cells #[.slice A1_0 l1_0.length c1_0, .int .i64 a1_1] 24 (0, 0)) (by (with_reducible repeat (first | refine blk_drewN ?_ _ | refine blk_drew ?_ | refine blk_alloc ?_ _)); refine blk_far ?_ NB515_537.out _; (with_reducible repeat (first | refine blk_drewN ?_ _ | refine blk_drew ?_ | refine blk_alloc ?_ _)); refine blk_far ?_ NB515_537.out _; exact qB BK515.out) hb); have n4_ := Aside0.mk (blk_below (g := gb529) (o := .cells #[.slice Ao42 t524.length co42, .int .i64 t527] 24 (0, 0)) (by (with_reducible repeat (first | refine blk_drewN ?_ _ | refine blk_drew ?_ | refine blk_alloc ?_ _)); refine blk_far ?_ NB529_537.out _; (with_reducible repeat (first | refine blk_drewN ?_ _ | refine blk_drew ?_ | refine blk_alloc ?_ _)); refine blk_far ?_ NB529_537.out _; exact qB BK529.out) hb); have n5_ := Aside0.mk (blk_below (g := gb537) (o := .cells #[.slice Ao67 t532.length co67, .int .i64 t535] 24 (0, 0)) (by (with_reducible repeat (first | refine blk_drewN ?_ _ | refine blk_drew ?_ | refine blk_alloc ?_ _)); refine blk_put (cs := #[.slice Ao67 t532.length co67, .int .i64 0]) ?_ 1 _ rfl; (with_reducible repeat (first | refine blk_drewN ?_ _ | refine blk_drew ?_ | refine blk_alloc ?_ _)); refine blk_put (cs := #[.slice none 0 0, .int .i64 0]) ?_ 0 _ rfl; exact qB BK537.out) hb); have n6_ := Aside0.mk (below_step (qW HB.out) hb); clear HO_530000 HO534 BK514 BK515 BK529 BK537 HB; have HO_530000 := n0_; have HO534 := n1_; have BK514 := n2_; have BK515 := n3_; have BK529 := n4_; have BK537 := n5_; have HB := n6_; clear n0_ n1_ n2_ n3_ n4_ n5_ n6_; (try clear hb); (try clear hb2); (try clear hk); (try clear hi); have hcz81_0 : w80.cell? ⟨gb537, 0, none⟩ = some (.slice Ao67 t532.length co67) := (blk_cell BK537.out 0).trans rfl; have hcz81_1 : w80.cell? ⟨gb537, 1, none⟩ = some (.int .i64 t535) := (blk_cell BK537.out 1).trans rfl; have hfz81_0 := blk_frozen BK537.out 0; have hfz81_1 := blk_frozen BK537.out 1) | (go_at_call 18; (with_reducible refine (curve_At.calls kj32 _ _ t532 t535 (wrap64 (a2)) t539 _ ?side1 ?side2 A75.out).mono ?_); (case side1 => repeat (first | exact (Kd.R_reads' HO534.out).2.2 | (with_reducible refine Kd.C_alloc ?_ _) | (with_reducible refine Kd.C_drewN ?_ _) | (with_reducible refine Kd.C_drew ?_))); (case side2 => exact (Kd.R_reads' HO534.out).2.1); rintro e w82 ⟨rfl, hb⟩; have n0_ := Aside0.mk (Kd.R_below (qR HO_530000.out) hb); have n1_ := Aside0.mk (Kd.R_below (qR HO534.out) hb); have n2_ := Aside0.mk (blk_below (qB BK514.out) hb); have n3_ := Aside0.mk (blk_below (qB BK515.out) hb); have n4_ := Aside0.mk (blk_below (qB BK529.out) hb); have n5_ := Aside0.mk (blk_below (qB BK537.out) hb); have n6_ := Aside0.mk (below_step (qW HB.out) hb); clear HO_530000 HO534 BK514 BK515 BK529 BK537 HB; have HO_530000 := n0_; have HO534 := n1_; have BK514 := n2_; have BK515 := n3_; have BK529 := n4_; have BK537 := n5_; have HB := n6_; clear n0_ n1_ n2_ n3_ n4_ n5_ n6_; (try clear hb); (try clear hb2); (try clear hk); (try clear hi)))
        go_meet
        case rel => exact ⟨_, ((t539 != (wrap64 (t522 + t523)))), (by first | rfl | (simp; done) | (simp [*]; done)), H', ⟨by have := HJ3.out; have := HJ32.out; first | omega | exact Nat.le_refl _⟩, ⟨by exact qR (Kd.R_mono HO_530000.out (fun _ hk => hk.2))⟩, ⟨by exact qR (Kd.R_mono HO534.out (fun _ hk => hk.2))⟩, ⟨by exact qB BK514.out⟩, ⟨by exact qB BK515.out⟩, ⟨by exact qB BK529.out⟩, ⟨by exact qB BK537.out⟩, ⟨by repeat (first | (with_reducible first | exact HB.out | apply below_alloc | apply pw_below_drewN | apply below_drew1 | refine below_set ?_ GE514.out | refine below_set ?_ GE515.out | refine below_set ?_ GE529.out | refine below_set ?_ GE537.out) | exact HB.out)⟩⟩
       case rest =>
        clear HC59
        try clear c1
        try clear c2
        try clear p2
        try clear c3
        try clear c4
        try clear c5
        try clear c6
        try clear p6
        try clear c7
        try clear c7b0
        try clear c7b1
        try clear c8
        try clear c10
        try clear c10b0
        try clear c10b1
        try clear c11
        try clear c15
        try clear c15b0
        try clear c15b1
        try clear c17
        try clear c18
        try clear c23
        try clear c27
        try clear c30
        try clear c32
        try clear c37
        try clear c43
        try clear c44
        try clear c46
        try clear c46b0
        try clear c46b1
        try clear c48
        try clear c48b0
        try clear c48b1
        try clear c51
        try clear c52
        try clear c57
        try clear c60
        try clear c61
        try clear c63
        try clear p64
        try clear c68
        try clear c69
        try clear c70
        try clear c72
        try clear c72b0
        try clear c72b1
        try clear c74
        try clear c74b0
        try clear c74b1
        try clear c76
        try clear c77
        try clear c78
        try clear hcz12_0
        try clear hcz12_1
        try clear hcz13_0
        try clear hcz13_1
        try clear hcz18_0
        try clear hcz18_1
        try clear hcz19_0
        try clear hcz19_1
        try clear hcz21_0
        try clear hcz21_1
        try clear hcz24_0
        try clear hcz24_1
        try clear hcz25_0
        try clear hcz25_1
        try clear hcz38_0
        try clear hcz38_1
        try clear hcz39_0
        try clear hcz39_1
        try clear hcz45_0
        try clear hcz45_1
        try clear hcz53_0
        try clear hcz53_1
        try clear hcz55_0
        try clear hcz55_1
        try clear hcz62_0
        try clear hcz62_1
        try clear hcz64_0
        try clear hcz64_1
        try clear hcz71_0
        try clear hcz71_1
        try clear hcz79_0
        try clear hcz79_1
        try clear hcz81_0
        try clear hcz81_1
        try clear hcz9_0
        try clear hcz9_1
        try clear hfz12_0
        try clear hfz12_1
        try clear hfz13_0
        try clear hfz13_1
        try clear hfz18_0
        try clear hfz18_1
        try clear hfz19_0
        try clear hfz19_1
        try clear hfz21_0
        try clear hfz21_1
        try clear hfz24_0
        try clear hfz24_1
        try clear hfz25_0
        try clear hfz25_1
        try clear hfz38_0
        try clear hfz38_1
        try clear hfz39_0
        try clear hfz39_1
        try clear hfz45_0
        try clear hfz45_1
        try clear hfz53_0
        try clear hfz53_1
        try clear hfz55_0
        try clear hfz55_1
        try clear hfz62_0
        try clear hfz62_1
        try clear hfz64_0
        try clear hfz64_1
        try clear hfz71_0
        try clear hfz71_1
        try clear hfz79_0
        try clear hfz79_1
        try clear hfz81_0
        try clear hfz81_1
        try clear hfz9_0
        try clear hfz9_1
        try clear p2
        try clear p6
        obtain ⟨kq, x92_58, rfl, HA, HJ58, HO_530000, HO_538000, BK514, BK515, BK529, BK537, HB⟩ := hcut
        cases kq with
        | zero => exact absurd HA.out (by simp [standbylaw55_CurvePoints.j2])
        | succ kj58 =>
         have H := HA.out
         clear HA
         simp only [standbylaw55_CurvePoints.j2] at H
         by_cases c83 : x92_58 = true
         ·subst c83
          have H1 : (none) = some r := by rw [if_pos rfl] at H; exact H
          clear H
          have H := H1
          clear H1
          exact absurd H (by simp)
         ·replace c83 := Bool.eq_false_iff.mpr c83
          subst c83
          have H1 : ((curve_Convolve.f kj58 l0_0 a0_1 l1_0 a1_1).bind fun bt540 => ((curve_Convolve.f kj58 l1_0 a1_1 l0_0 a0_1).bind fun bt546 => (if bt540.2.2 = bt546.2.2 then ((standbyref55_Same.f kj58 bt540.1 bt540.2.1 bt546.1 bt546.2.1).bind fun t552 => (if t552 = true then (if bt540.2.2 = 0 then ((curve_At.f kj58 l0_0 a0_1 0).bind fun t554 => ((curve_At.f kj58 l1_0 a1_1 (wrap64 (a2))).bind fun t555 => (standbylaw55_CurvePoints.l0 kj58 (wrap64 (a2)) (wrap64 (t554 + t555)) (wrap64 ((wrap64 (a2)) + 1)) 0 l0_0 a0_1 l1_0 a1_1 bt540.1 bt540.2.1))) else ((standbylaw55_awake.f kj58).bind fun t553 => (some t553))) else (none))) else (none)))) = some r := by rw [if_neg (show ¬ (false = true) by decide)] at H; exact H
          clear H
          have H := H1
          clear H1
          replace H := Option.bind_eq_some_iff.mp H
          obtain ⟨⟨t540, t543, t544⟩, A840, H⟩ := H
          replace H : ((curve_Convolve.f kj58 l1_0 a1_1 l0_0 a0_1).bind fun bt546 => (if t544 = bt546.2.2 then ((standbyref55_Same.f kj58 t540 t543 bt546.1 bt546.2.1).bind fun t552 => (if t552 = true then (if t544 = 0 then ((curve_At.f kj58 l0_0 a0_1 0).bind fun t554 => ((curve_At.f kj58 l1_0 a1_1 (wrap64 (a2))).bind fun t555 => (standbylaw55_CurvePoints.l0 kj58 (wrap64 (a2)) (wrap64 (t554 + t555)) (wrap64 ((wrap64 (a2)) + 1)) 0 l0_0 a0_1 l1_0 a1_1 t540 t543))) else ((standbylaw55_awake.f kj58).bind fun t553 => (some t553))) else (none))) else (none))) = some r := H
          have A84 := Aside0.mk A840
          clear A840
          replace H := Option.bind_eq_some_iff.mp H
          obtain ⟨⟨t546, t549, t550⟩, A850, H⟩ := H
          replace H : (if t544 = t550 then ((standbyref55_Same.f kj58 t540 t543 t546 t549).bind fun t552 => (if t552 = true then (if t544 = 0 then ((curve_At.f kj58 l0_0 a0_1 0).bind fun t554 => ((curve_At.f kj58 l1_0 a1_1 (wrap64 (a2))).bind fun t555 => (standbylaw55_CurvePoints.l0 kj58 (wrap64 (a2)) (wrap64 (t554 + t555)) (wrap64 ((wrap64 (a2)) + 1)) 0 l0_0 a0_1 l1_0 a1_1 t540 t543))) else ((standbylaw55_awake.f kj58).bind fun t553 => (some t553))) else (none))) else (none)) = some r := H
          have A85 := Aside0.mk A850
          clear A850
          by_cases c86 : t544 = t550
          case neg =>
           rw [if_neg c86] at H
           exact absurd H (by simp)

          rw [if_pos c86] at H
          have c86b0 : (t544 == t550) = true := beq_iff_eq.mpr c86
          have c86b1 : (t544 != t550) = false := bne_eq_false_iff_eq.mpr c86
          clear c86
          replace H := Option.bind_eq_some_iff.mp H
          obtain ⟨t552, A870, H⟩ := H
          replace H : (if t552 = true then (if t544 = 0 then ((curve_At.f kj58 l0_0 a0_1 0).bind fun t554 => ((curve_At.f kj58 l1_0 a1_1 (wrap64 (a2))).bind fun t555 => (standbylaw55_CurvePoints.l0 kj58 (wrap64 (a2)) (wrap64 (t554 + t555)) (wrap64 ((wrap64 (a2)) + 1)) 0 l0_0 a0_1 l1_0 a1_1 t540 t543))) else ((standbylaw55_awake.f kj58).bind fun t553 => (some t553))) else (none)) = some r := H
          have A87 := Aside0.mk A870
          clear A870
          by_cases c88 : t552 = true
          case neg =>
           replace c88 := Bool.eq_false_iff.mpr c88
           subst c88
           have H1 : (none) = some r := by rw [if_neg (show ¬ (false = true) by decide)] at H; exact H
           clear H
           have H := H1
           clear H1
           exact absurd H (by simp)
          subst c88
          have H1 : (if t544 = 0 then ((curve_At.f kj58 l0_0 a0_1 0).bind fun t554 => ((curve_At.f kj58 l1_0 a1_1 (wrap64 (a2))).bind fun t555 => (standbylaw55_CurvePoints.l0 kj58 (wrap64 (a2)) (wrap64 (t554 + t555)) (wrap64 ((wrap64 (a2)) + 1)) 0 l0_0 a0_1 l1_0 a1_1 t540 t543))) else ((standbylaw55_awake.f kj58).bind fun t553 => (some t553))) = some r := by rw [if_pos rfl] at H; exact H
          clear H
          have H := H1
          clear H1
          by_cases c89 : t544 = 0
          case neg =>
           rw [if_neg c89] at H
           have c89b0 : (t544 == 0) = false := beq_eq_false_iff_ne.mpr c89
           have c89b1 : (t544 != 0) = true := bne_iff_ne.mpr c89
           replace H := Option.bind_eq_some_iff.mp H
           obtain ⟨t553, A1450, H⟩ := H
           replace H : (some t553) = some r := H
           have A145 := Aside0.mk A1450
           clear A1450
           obtain rfl := Option.some.inj H
           have hnb146 := NB514_515.out
           have hnc146 := NB515_514.out
           have hnb147 := NB514_529.out
           have hnc147 := NB529_514.out
           have hnb148 := NB514_537.out
           have hnc148 := NB537_514.out
           have hcz149_0 : wc.cell? ⟨gb514, 0, none⟩ = some (.slice A0_0 l0_0.length c0_0) := (blk_cell BK514.out 0).trans rfl
           have hcz149_1 : wc.cell? ⟨gb514, 1, none⟩ = some (.int .i64 a0_1) := (blk_cell BK514.out 1).trans rfl
           have hfz149_0 := blk_frozen BK514.out 0
           have hfz149_1 := blk_frozen BK514.out 1
           have hnb150 := NB515_529.out
           have hnc150 := NB529_515.out
           have hnb151 := NB515_537.out
           have hnc151 := NB537_515.out
           have hcz152_0 : wc.cell? ⟨gb515, 0, none⟩ = some (.slice A1_0 l1_0.length c1_0) := (blk_cell BK515.out 0).trans rfl
           have hcz152_1 : wc.cell? ⟨gb515, 1, none⟩ = some (.int .i64 a1_1) := (blk_cell BK515.out 1).trans rfl
           have hfz152_0 := blk_frozen BK515.out 0
           have hfz152_1 := blk_frozen BK515.out 1
           go_wp2_with (first | ((with_reducible refine gate_callee (f := 21) rfl ?_); refine goesL_ (some 96) rfl rfl Try.func21 (by kernel_rfl) rfl #[.agg #[.slice A0_0 l0_0.length c0_0, .int .i64 a0_1], .agg #[.slice A1_0 l1_0.length c1_0, .int .i64 a1_1]] rfl (by (try simp only [List.map_toArray, List.map_cons, List.map_nil]); first | done | rfl | (simp only [List.length_drop, List.length_take]; rfl)) ?_; (with_reducible refine (curve_Convolve.calls kj58 _ _ l0_0 a0_1 _ _ l1_0 a1_1 t540 t543 t544 _ ?side1 ?side2 ?side3 ?side4 A84.out).mono ?_); (case side1 => exact qC HR0_0.out HB.out); (case side2 => exact HC0_0.out); (case side3 => exact qC HR1_0.out HB.out); (case side4 => exact HC1_0.out); rintro e w153 ⟨v541, rfl, ho0, hb⟩; refine ⟨_, rfl, ?_⟩; have n0_ := Aside0.mk (Kd.R_elder' (qR HO_530000.out) (Kd.R_base ho0) hb); have n1_ := Aside0.mk (Kd.R_elder' (qR HO_538000.out) (Kd.R_base ho0) hb); have n2_ := Aside0.mk (Kd.R_lower (Kd.R_new' (Kd.R_new' ho0 (Kd.R_lt (qR HO_530000.out))) (Kd.R_lt (qR HO_538000.out))) (below_size (qW HB.out))); have n3_ := Aside0.mk (blk_below (qB BK514.out) hb); have n4_ := Aside0.mk (blk_below (qB BK515.out) hb); have n5_ := Aside0.mk (blk_below (qB BK529.out) hb); have n6_ := Aside0.mk (blk_below (qB BK537.out) hb); have n7_ := Aside0.mk (below_step (qW HB.out) hb); clear HO_530000 HO_538000 BK514 BK515 BK529 BK537 HB; have HO_530000 := n0_; have HO_538000 := n1_; have HO542 := n2_; have BK514 := n3_; have BK515 := n4_; have BK529 := n5_; have BK537 := n6_; have HB := n7_; clear n0_ n1_ n2_ n3_ n4_ n5_ n6_ n7_; (try clear hb); (try clear hb2); (try clear hk); (try clear hi); (try clear ho0)) | ((with_reducible refine gate_dst (N := 14) rfl ?_); (try (refine gate_guard (by rfl) ?_; dsimp only)); refine box_event ?hg (N := 14) ?hd (cs := #[.slice none 0 0, .int .i64 0]) (t := 24) ?hr ?_; (case hd => rfl); (case hg => rfl); (case hr => first | (go_simp; done) | (go_simp; rfl)); intro gb545 hg w154 hbox hb; have n0_ := Aside0.mk (Kd.R_below (qR HO_530000.out) hb); have n1_ := Aside0.mk (Kd.R_below (qR HO_538000.out) hb); have n2_ := Aside0.mk (Kd.R_below (qR HO542.out) hb); have n3_ := Aside0.mk (blk_below (qB BK514.out) hb); have n4_ := Aside0.mk (blk_below (qB BK515.out) hb); have n5_ := Aside0.mk (blk_below (qB BK529.out) hb); have n6_ := Aside0.mk (blk_below (qB BK537.out) hb); have n7_ := Aside0.mk (below_step (qW HB.out) hb); have n8_ := Aside0.mk (hbox); have n9_ := Aside0.mk ((by rw [hg]; exact (below_size (qW HB.out)) : w.heap.size ≤ gb545)); have n10_ := Aside0.mk ((by rw [hg]; exact (below_size (qW HB.out)) : w.heap.size ≤ gb545)); have n11_ := Aside0.mk ((by rw [hg]; exact Nat.ne_of_lt (blk_lt (qB BK514.out)) : gb514 ≠ gb545)); have n12_ := Aside0.mk ((by rw [hg]; exact Nat.ne_of_gt (blk_lt (qB BK514.out)) : gb545 ≠ gb514)); have n13_ := Aside0.mk ((by rw [hg]; exact Nat.ne_of_lt (blk_lt (qB BK515.out)) : gb515 ≠ gb545)); have n14_ := Aside0.mk ((by rw [hg]; exact Nat.ne_of_gt (blk_lt (qB BK515.out)) : gb545 ≠ gb515)); have n15_ := Aside0.mk ((by rw [hg]; exact Nat.ne_of_lt (blk_lt (qB BK529.out)) : gb529 ≠ gb545)); have n16_ := Aside0.mk ((by rw [hg]; exact Nat.ne_of_gt (blk_lt (qB BK529.out)) : gb545 ≠ gb529)); have n17_ := Aside0.mk ((by rw [hg]; exact Nat.ne_of_lt (blk_lt (qB BK537.out)) : gb537 ≠ gb545)); have n18_ := Aside0.mk ((by rw [hg]; exact Nat.ne_of_gt (blk_lt (qB BK537.out)) : gb545 ≠ gb537)); clear HO_530000 HO_538000 HO542 BK514 BK515 BK529 BK537 HB; have HO_530000 := n0_; have HO_538000 := n1_; have HO542 := n2_; have BK514 := n3_; have BK515 := n4_; have BK529 := n5_; have BK537 := n6_; have HB := n7_; have BK545 := n8_; have GW545 := n9_; have GE545 := n10_; have NB514_545 := n11_; have NB545_514 := n12_; have NB515_545 := n13_; have NB545_515 := n14_; have NB529_545 := n15_; have NB545_529 := n16_; have NB537_545 := n17_; have NB545_537 := n18_; clear n0_ n1_ n2_ n3_ n4_ n5_ n6_ n7_ n8_ n9_ n10_ n11_ n12_ n13_ n14_ n15_ n16_ n17_ n18_ hb hbox hg; obtain ⟨Ao155, co155, eo155⟩ := Kd.R_slice HO542.out; subst eo155; have hnb156 := NB545_514.out; have hnc156 := NB514_545.out; have hnb157 := NB545_515.out; have hnc157 := NB515_545.out; have hnb158 := NB545_529.out; have hnc158 := NB529_545.out; have hnb159 := NB545_537.out; have hnc159 := NB537_545.out; have hcz160_0 : w154.cell? ⟨gb545, 0, none⟩ = some (.slice none 0 0) := (blk_cell BK545.out 0).trans rfl; have hcz160_1 : w154.cell? ⟨gb545, 1, none⟩ = some (.int .i64 0) := (blk_cell BK545.out 1).trans rfl; have hfz160_0 := blk_frozen BK545.out 0; have hfz160_1 := blk_frozen BK545.out 1; have hcz161_0 : w154.cell? ⟨gb515, 0, none⟩ = some (.slice A1_0 l1_0.length c1_0) := (blk_cell BK515.out 0).trans rfl; have hcz161_1 : w154.cell? ⟨gb515, 1, none⟩ = some (.int .i64 a1_1) := (blk_cell BK515.out 1).trans rfl; have hfz161_0 := blk_frozen BK515.out 0; have hfz161_1 := blk_frozen BK515.out 1; have hcz162_0 : w154.cell? ⟨gb514, 0, none⟩ = some (.slice A0_0 l0_0.length c0_0) := (blk_cell BK514.out 0).trans rfl; have hcz162_1 : w154.cell? ⟨gb514, 1, none⟩ = some (.int .i64 a0_1) := (blk_cell BK514.out 1).trans rfl; have hfz162_0 := blk_frozen BK514.out 0; have hfz162_1 := blk_frozen BK514.out 1) | ((with_reducible refine gate_callee (f := 21) rfl ?_); refine goesL_ (some 102) rfl rfl Try.func21 (by kernel_rfl) rfl #[.agg #[.slice A1_0 l1_0.length c1_0, .int .i64 a1_1], .agg #[.slice A0_0 l0_0.length c0_0, .int .i64 a0_1]] rfl (by (try simp only [List.map_toArray, List.map_cons, List.map_nil]); first | done | rfl | (simp only [List.length_drop, List.length_take]; rfl)) ?_; (with_reducible refine (curve_Convolve.calls kj58 _ _ l1_0 a1_1 _ _ l0_0 a0_1 t546 t549 t550 _ ?side1 ?side2 ?side3 ?side4 A85.out).mono ?_); (case side1 => exact Kd.C_below HR1_0.out (qW HB.out)); (case side2 => exact HC1_0.out); (case side3 => exact Kd.C_below HR0_0.out (qW HB.out)); (case side4 => exact HC0_0.out); rintro e w163 ⟨v547, rfl, ho0, hb⟩; refine ⟨_, rfl, ?_⟩; have n0_ := Aside0.mk (Kd.R_elder' (qR (Kd.R_mono (Kd.R_far (p := ⟨gb545, 1, none⟩) (Kd.R_far (p := ⟨gb545, 0, none⟩) (Kd.R_types HO_530000.out BK545.out (by decide)) (fun _ hk => hk.2) (.slice Ao155 t540.length co155)) (fun _ hk => hk.2) (.int .i64 t543)) (fun _ h_ => h_.1))) (Kd.R_base ho0) hb); have n1_ := Aside0.mk (Kd.R_elder' (qR (Kd.R_mono (Kd.R_far (p := ⟨gb545, 1, none⟩) (Kd.R_far (p := ⟨gb545, 0, none⟩) (Kd.R_types HO_538000.out BK545.out (by decide)) (fun _ hk => hk.2) (.slice Ao155 t540.length co155)) (fun _ hk => hk.2) (.int .i64 t543)) (fun _ h_ => h_.1))) (Kd.R_base ho0) hb); have n2_ := Aside0.mk (Kd.R_elder' (qR (Kd.R_mono (Kd.R_far (p := ⟨gb545, 1, none⟩) (Kd.R_far (p := ⟨gb545, 0, none⟩) (Kd.R_types HO542.out BK545.out (by decide)) (fun _ hk => hk.2) (.slice Ao155 t540.length co155)) (fun _ hk => hk.2) (.int .i64 t543)) (fun _ h_ => h_.1))) (Kd.R_base ho0) hb); have n3_ := Aside0.mk (Kd.R_lower (Kd.R_new' (Kd.R_new' (Kd.R_new' ho0 (Kd.R_lt (qR (Kd.R_mono (Kd.R_far (p := ⟨gb545, 1, none⟩) (Kd.R_far (p := ⟨gb545, 0, none⟩) (Kd.R_types HO_530000.out BK545.out (by decide)) (fun _ hk => hk.2) (.slice Ao155 t540.length co155)) (fun _ hk => hk.2) (.int .i64 t543)) (fun _ h_ => h_.1))))) (Kd.R_lt (qR (Kd.R_mono (Kd.R_far (p := ⟨gb545, 1, none⟩) (Kd.R_far (p := ⟨gb545, 0, none⟩) (Kd.R_types HO_538000.out BK545.out (by decide)) (fun _ hk => hk.2) (.slice Ao155 t540.length co155)) (fun _ hk => hk.2) (.int .i64 t543)) (fun _ h_ => h_.1))))) (Kd.R_lt (qR (Kd.R_mono (Kd.R_far (p := ⟨gb545, 1, none⟩) (Kd.R_far (p := ⟨gb545, 0, none⟩) (Kd.R_types HO542.out BK545.out (by decide)) (fun _ hk => hk.2) (.slice Ao155 t540.length co155)) (fun _ hk => hk.2) (.int .i64 t543)) (fun _ h_ => h_.1))))) (below_size (qW HB.out))); have n4_ := Aside0.mk (blk_below (g := gb514) (o := .cells #[.slice A0_0 l0_0.length c0_0, .int .i64 a0_1] 24 (0, 0)) (by (with_reducible repeat (first | refine blk_drewN ?_ _ | refine blk_drew ?_ | refine blk_alloc ?_ _)); refine blk_far ?_ NB514_545.out _; (with_reducible repeat (first | refine blk_drewN ?_ _ | refine blk_drew ?_ | refine blk_alloc ?_ _)); refine blk_far ?_ NB514_545.out _; exact qB BK514.out) hb); have n5_ := Aside0.mk (blk_below (g := gb515) (o := .cells #[.slice A1_0 l1_0.length c1_0, .int .i64 a1_1] 24 (0, 0)) (by (with_reducible repeat (first | refine blk_drewN ?_ _ | refine blk_drew ?_ | refine blk_alloc ?_ _)); refine blk_far ?_ NB515_545.out _; (with_reducible repeat (first | refine blk_drewN ?_ _ | refine blk_drew ?_ | refine blk_alloc ?_ _)); refine blk_far ?_ NB515_545.out _; exact qB BK515.out) hb); have n6_ := Aside0.mk (blk_below (g := gb529) (o := .cells #[.slice Ao42 t524.length co42, .int .i64 t527] 24 (0, 0)) (by (with_reducible repeat (first | refine blk_drewN ?_ _ | refine blk_drew ?_ | refine blk_alloc ?_ _)); refine blk_far ?_ NB529_545.out _; (with_reducible repeat (first | refine blk_drewN ?_ _ | refine blk_drew ?_ | refine blk_alloc ?_ _)); refine blk_far ?_ NB529_545.out _; exact qB BK529.out) hb); have n7_ := Aside0.mk (blk_below (g := gb537) (o := .cells #[.slice Ao67 t532.length co67, .int .i64 t535] 24 (0, 0)) (by (with_reducible repeat (first | refine blk_drewN ?_ _ | refine blk_drew ?_ | refine blk_alloc ?_ _)); refine blk_far ?_ NB537_545.out _; (with_reducible repeat (first | refine blk_drewN ?_ _ | refine blk_drew ?_ | refine blk_alloc ?_ _)); refine blk_far ?_ NB537_545.out _; exact qB BK537.out) hb); have n8_ := Aside0.mk (blk_below (g := gb545) (o := .cells #[.slice Ao155 t540.length co155, .int .i64 t543] 24 (0, 0)) (by (with_reducible repeat (first | refine blk_drewN ?_ _ | refine blk_drew ?_ | refine blk_alloc ?_ _)); refine blk_put (cs := #[.slice Ao155 t540.length co155, .int .i64 0]) ?_ 1 _ rfl; (with_reducible repeat (first | refine blk_drewN ?_ _ | refine blk_drew ?_ | refine blk_alloc ?_ _)); refine blk_put (cs := #[.slice none 0 0, .int .i64 0]) ?_ 0 _ rfl; exact qB BK545.out) hb); have n9_ := Aside0.mk (below_step (qW HB.out) hb); clear HO_530000 HO_538000 HO542 BK514 BK515 BK529 BK537 BK545 HB; have HO_530000 := n0_; have HO_538000 := n1_; have HO542 := n2_; have HO548 := n3_; have BK514 := n4_; have BK515 := n5_; have BK529 := n6_; have BK537 := n7_; have BK545 := n8_; have HB := n9_; clear n0_ n1_ n2_ n3_ n4_ n5_ n6_ n7_ n8_ n9_; (try clear hb); (try clear hb2); (try clear hk); (try clear hi); (try clear ho0)) | ((with_reducible refine gate_dst (N := 16) rfl ?_); (try (refine gate_guard (by rfl) ?_; dsimp only)); refine box_event ?hg (N := 16) ?hd (cs := #[.slice none 0 0, .int .i64 0]) (t := 24) ?hr ?_; (case hd => rfl); (case hg => rfl); (case hr => first | (go_simp; done) | (go_simp; rfl)); intro gb551 hg w164 hbox hb; have n0_ := Aside0.mk (Kd.R_below (qR HO_530000.out) hb); have n1_ := Aside0.mk (Kd.R_below (qR HO_538000.out) hb); have n2_ := Aside0.mk (Kd.R_below (qR HO542.out) hb); have n3_ := Aside0.mk (Kd.R_below (qR HO548.out) hb); have n4_ := Aside0.mk (blk_below (qB BK514.out) hb); have n5_ := Aside0.mk (blk_below (qB BK515.out) hb); have n6_ := Aside0.mk (blk_below (qB BK529.out) hb); have n7_ := Aside0.mk (blk_below (qB BK537.out) hb); have n8_ := Aside0.mk (blk_below (qB BK545.out) hb); have n9_ := Aside0.mk (below_step (qW HB.out) hb); have n10_ := Aside0.mk (hbox); have n11_ := Aside0.mk ((by rw [hg]; exact (below_size (qW HB.out)) : w.heap.size ≤ gb551)); have n12_ := Aside0.mk ((by rw [hg]; exact (below_size (qW HB.out)) : w.heap.size ≤ gb551)); have n13_ := Aside0.mk ((by rw [hg]; exact Nat.ne_of_lt (blk_lt (qB BK514.out)) : gb514 ≠ gb551)); have n14_ := Aside0.mk ((by rw [hg]; exact Nat.ne_of_gt (blk_lt (qB BK514.out)) : gb551 ≠ gb514)); have n15_ := Aside0.mk ((by rw [hg]; exact Nat.ne_of_lt (blk_lt (qB BK515.out)) : gb515 ≠ gb551)); have n16_ := Aside0.mk ((by rw [hg]; exact Nat.ne_of_gt (blk_lt (qB BK515.out)) : gb551 ≠ gb515)); have n17_ := Aside0.mk ((by rw [hg]; exact Nat.ne_of_lt (blk_lt (qB BK529.out)) : gb529 ≠ gb551)); have n18_ := Aside0.mk ((by rw [hg]; exact Nat.ne_of_gt (blk_lt (qB BK529.out)) : gb551 ≠ gb529)); have n19_ := Aside0.mk ((by rw [hg]; exact Nat.ne_of_lt (blk_lt (qB BK537.out)) : gb537 ≠ gb551)); have n20_ := Aside0.mk ((by rw [hg]; exact Nat.ne_of_gt (blk_lt (qB BK537.out)) : gb551 ≠ gb537)); have n21_ := Aside0.mk ((by rw [hg]; exact Nat.ne_of_lt (blk_lt (qB BK545.out)) : gb545 ≠ gb551)); have n22_ := Aside0.mk ((by rw [hg]; exact Nat.ne_of_gt (blk_lt (qB BK545.out)) : gb551 ≠ gb545)); clear HO_530000 HO_538000 HO542 HO548 BK514 BK515 BK529 BK537 BK545 HB; have HO_530000 := n0_; have HO_538000 := n1_; have HO542 := n2_; have HO548 := n3_; have BK514 := n4_; have BK515 := n5_; have BK529 := n6_; have BK537 := n7_; have BK545 := n8_; have HB := n9_; have BK551 := n10_; have GW551 := n11_; have GE551 := n12_; have NB514_551 := n13_; have NB551_514 := n14_; have NB515_551 := n15_; have NB551_515 := n16_; have NB529_551 := n17_; have NB551_529 := n18_; have NB537_551 := n19_; have NB551_537 := n20_; have NB545_551 := n21_; have NB551_545 := n22_; clear n0_ n1_ n2_ n3_ n4_ n5_ n6_ n7_ n8_ n9_ n10_ n11_ n12_ n13_ n14_ n15_ n16_ n17_ n18_ n19_ n20_ n21_ n22_ hb hbox hg; obtain ⟨Ao165, co165, eo165⟩ := Kd.R_slice HO548.out; subst eo165; have hnb166 := NB551_514.out; have hnc166 := NB514_551.out; have hnb167 := NB551_515.out; have hnc167 := NB515_551.out; have hnb168 := NB551_529.out; have hnc168 := NB529_551.out; have hnb169 := NB551_537.out; have hnc169 := NB537_551.out; have hnb170 := NB551_545.out; have hnc170 := NB545_551.out; have hcz171_0 : w164.cell? ⟨gb551, 0, none⟩ = some (.slice none 0 0) := (blk_cell BK551.out 0).trans rfl; have hcz171_1 : w164.cell? ⟨gb551, 1, none⟩ = some (.int .i64 0) := (blk_cell BK551.out 1).trans rfl; have hfz171_0 := blk_frozen BK551.out 0; have hfz171_1 := blk_frozen BK551.out 1; have hcz172_0 : w164.cell? ⟨gb545, 0, none⟩ = some (.slice Ao155 t540.length co155) := (blk_cell BK545.out 0).trans rfl; have hcz172_1 : w164.cell? ⟨gb545, 1, none⟩ = some (.int .i64 t543) := (blk_cell BK545.out 1).trans rfl; have hfz172_0 := blk_frozen BK545.out 0; have hfz172_1 := blk_frozen BK545.out 1) | (go_at_call 20; (with_reducible refine (standbyref55_Same.calls kj58 _ _ t540 t543 _ _ t546 t549 true _ ?side1 ?side2 ?side3 ?side4 A87.out).mono ?_); (case side1 => refine (Kd.R_reads' (e := 3) (base := w.heap.size) (ok := fun k_ => (((True ∧ some k_ ≠ (.slice Ao42 t524.length co42 : Value).ownBlock) ∧ some k_ ≠ (.slice Ao67 t532.length co67 : Value).ownBlock) ∧ some k_ ≠ (.slice Ao165 t546.length co165 : Value).ownBlock)) (n := t540.length) (c := co155) ?_).2.2; exact (qR (Kd.R_mono (Kd.R_far (p := ⟨gb551, 1, none⟩) (Kd.R_far (p := ⟨gb551, 0, none⟩) (Kd.R_types HO542.out BK551.out (by decide)) (fun _ hk => hk.2) (.slice Ao165 t546.length co165)) (fun _ hk => hk.2) (.int .i64 t549)) (fun _ h_ => h_.1)))); (case side2 => exact (Kd.R_reads' HO542.out).2.1); (case side3 => refine (Kd.R_reads' (e := 3) (base := w.heap.size) (ok := fun k_ => (((True ∧ some k_ ≠ (.slice Ao42 t524.length co42 : Value).ownBlock) ∧ some k_ ≠ (.slice Ao67 t532.length co67 : Value).ownBlock) ∧ some k_ ≠ (.slice Ao155 t540.length co155 : Value).ownBlock)) (n := t546.length) (c := co165) ?_).2.2; exact (qR (Kd.R_mono (Kd.R_far (p := ⟨gb551, 1, none⟩) (Kd.R_far (p := ⟨gb551, 0, none⟩) (Kd.R_types HO548.out BK551.out (by decide)) (fun _ hk => hk.2) (.slice Ao165 t546.length co165)) (fun _ hk => hk.2) (.int .i64 t549)) (fun _ h_ => h_.1)))); (case side4 => exact (Kd.R_reads' HO548.out).2.1); rintro e w173 ⟨rfl, hb⟩; have n0_ := Aside0.mk (Kd.R_below (qR (Kd.R_mono (Kd.R_far (p := ⟨gb551, 1, none⟩) (Kd.R_far (p := ⟨gb551, 0, none⟩) (Kd.R_types HO_530000.out BK551.out (by decide)) (fun _ hk => hk.2) (.slice Ao165 t546.length co165)) (fun _ hk => hk.2) (.int .i64 t549)) (fun _ h_ => h_.1))) hb); have n1_ := Aside0.mk (Kd.R_below (qR (Kd.R_mono (Kd.R_far (p := ⟨gb551, 1, none⟩) (Kd.R_far (p := ⟨gb551, 0, none⟩) (Kd.R_types HO_538000.out BK551.out (by decide)) (fun _ hk => hk.2) (.slice Ao165 t546.length co165)) (fun _ hk => hk.2) (.int .i64 t549)) (fun _ h_ => h_.1))) hb); have n2_ := Aside0.mk (Kd.R_below (qR (Kd.R_mono (Kd.R_far (p := ⟨gb551, 1, none⟩) (Kd.R_far (p := ⟨gb551, 0, none⟩) (Kd.R_types HO542.out BK551.out (by decide)) (fun _ hk => hk.2) (.slice Ao165 t546.length co165)) (fun _ hk => hk.2) (.int .i64 t549)) (fun _ h_ => h_.1))) hb); have n3_ := Aside0.mk (Kd.R_below (qR (Kd.R_mono (Kd.R_far (p := ⟨gb551, 1, none⟩) (Kd.R_far (p := ⟨gb551, 0, none⟩) (Kd.R_types HO548.out BK551.out (by decide)) (fun _ hk => hk.2) (.slice Ao165 t546.length co165)) (fun _ hk => hk.2) (.int .i64 t549)) (fun _ h_ => h_.1))) hb); have n4_ := Aside0.mk (blk_below (g := gb514) (o := .cells #[.slice A0_0 l0_0.length c0_0, .int .i64 a0_1] 24 (0, 0)) (by (with_reducible repeat (first | refine blk_drewN ?_ _ | refine blk_drew ?_ | refine blk_alloc ?_ _)); refine blk_far ?_ NB514_551.out _; (with_reducible repeat (first | refine blk_drewN ?_ _ | refine blk_drew ?_ | refine blk_alloc ?_ _)); refine blk_far ?_ NB514_551.out _; exact qB BK514.out) hb); have n5_ := Aside0.mk (blk_below (g := gb515) (o := .cells #[.slice A1_0 l1_0.length c1_0, .int .i64 a1_1] 24 (0, 0)) (by (with_reducible repeat (first | refine blk_drewN ?_ _ | refine blk_drew ?_ | refine blk_alloc ?_ _)); refine blk_far ?_ NB515_551.out _; (with_reducible repeat (first | refine blk_drewN ?_ _ | refine blk_drew ?_ | refine blk_alloc ?_ _)); refine blk_far ?_ NB515_551.out _; exact qB BK515.out) hb); have n6_ := Aside0.mk (blk_below (g := gb529) (o := .cells #[.slice Ao42 t524.length co42, .int .i64 t527] 24 (0, 0)) (by (with_reducible repeat (first | refine blk_drewN ?_ _ | refine blk_drew ?_ | refine blk_alloc ?_ _)); refine blk_far ?_ NB529_551.out _; (with_reducible repeat (first | refine blk_drewN ?_ _ | refine blk_drew ?_ | refine blk_alloc ?_ _)); refine blk_far ?_ NB529_551.out _; exact qB BK529.out) hb); have n7_ := Aside0.mk (blk_below (g := gb537) (o := .cells #[.slice Ao67 t532.length co67, .int .i64 t535] 24 (0, 0)) (by (with_reducible repeat (first | refine blk_drewN ?_ _ | refine blk_drew ?_ | refine blk_alloc ?_ _)); refine blk_far ?_ NB537_551.out _; (with_reducible repeat (first | refine blk_drewN ?_ _ | refine blk_drew ?_ | refine blk_alloc ?_ _)); refine blk_far ?_ NB537_551.out _; exact qB BK537.out) hb); have n8_ := Aside0.mk (blk_below (g := gb545) (o := .cells #[.slice Ao155 t540.length co155, .int .i64 t543] 24 (0, 0)) (by (with_reducible repeat (first | refine blk_drewN ?_ _ | refine blk_drew ?_ | refine blk_alloc ?_ _)); refine blk_far ?_ NB545_551.out _; (with_reducible repeat (first | refine blk_drewN ?_ _ | refine blk_drew ?_ | refine blk_alloc ?_ _)); refine blk_far ?_ NB545_551.out _; exact qB BK545.out) hb); have n9_ := Aside0.mk (blk_below (g := gb551) (o := .cells #[.slice Ao165 t546.length co165, .int .i64 t549] 24 (0, 0)) (by (with_reducible repeat (first | refine blk_drewN ?_ _ | refine blk_drew ?_ | refine blk_alloc ?_ _)); refine blk_put (cs := #[.slice Ao165 t546.length co165, .int .i64 0]) ?_ 1 _ rfl; (with_reducible repeat (first | refine blk_drewN ?_ _ | refine blk_drew ?_ | refine blk_alloc ?_ _)); refine blk_put (cs := #[.slice none 0 0, .int .i64 0]) ?_ 0 _ rfl; exact qB BK551.out) hb); have n10_ := Aside0.mk (below_step (qW HB.out) hb); clear HO_530000 HO_538000 HO542 HO548 BK514 BK515 BK529 BK537 BK545 BK551 HB; have HO_530000 := n0_; have HO_538000 := n1_; have HO542 := n2_; have HO548 := n3_; have BK514 := n4_; have BK515 := n5_; have BK529 := n6_; have BK537 := n7_; have BK545 := n8_; have BK551 := n9_; have HB := n10_; clear n0_ n1_ n2_ n3_ n4_ n5_ n6_ n7_ n8_ n9_ n10_; (try clear hb); (try clear hb2); (try clear hk); (try clear hi)) | ((with_reducible refine gate_callee (f := 11) rfl ?_); refine goesL_ (some 116) rfl rfl Try.func11 (by kernel_rfl) rfl #[] rfl (by (try simp only [List.map_toArray, List.map_cons, List.map_nil]); first | done | rfl | (simp only [List.length_drop, List.length_take]; rfl)) ?_; (with_reducible refine (standbylaw55_awake.calls kj58  t553 _ A145.out).mono ?_); rintro e w174 ⟨rfl, hb⟩; refine ⟨_, rfl, ?_⟩; have n0_ := Aside0.mk (Kd.R_below (qR HO_530000.out) hb); have n1_ := Aside0.mk (Kd.R_below (qR HO_538000.out) hb); have n2_ := Aside0.mk (Kd.R_below (qR HO542.out) hb); have n3_ := Aside0.mk (Kd.R_below (qR HO548.out) hb); have n4_ := Aside0.mk (blk_below (qB BK514.out) hb); have n5_ := Aside0.mk (blk_below (qB BK515.out) hb); have n6_ := Aside0.mk (blk_below (qB BK529.out) hb); have n7_ := Aside0.mk (blk_below (qB BK537.out) hb); have n8_ := Aside0.mk (blk_below (qB BK545.out) hb); have n9_ := Aside0.mk (blk_below (qB BK551.out) hb); have n10_ := Aside0.mk (below_step (qW HB.out) hb); clear HO_530000 HO_538000 HO542 HO548 BK514 BK515 BK529 BK537 BK545 BK551 HB; have HO_530000 := n0_; have HO_538000 := n1_; have HO542 := n2_; have HO548 := n3_; have BK514 := n4_; have BK515 := n5_; have BK529 := n6_; have BK537 := n7_; have BK545 := n8_; have BK551 := n9_; have HB := n10_; clear n0_ n1_ n2_ n3_ n4_ n5_ n6_ n7_ n8_ n9_ n10_; (try clear hb); (try clear hb2); (try clear hk); (try clear hi)))
           go_ret
           exact ⟨by first | rfl | (simp [errW_none, errW_some] <;> rfl) | (simp [*, errW_none, errW_some] <;> rfl), by repeat (first | (with_reducible first | exact HB.out | apply below_alloc | apply pw_below_drewN | apply below_drew1 | refine below_set ?_ GE514.out | refine below_set ?_ GE515.out | refine below_set ?_ GE529.out | refine below_set ?_ GE537.out | refine below_set ?_ GE545.out | refine below_set ?_ GE551.out) | exact HB.out)⟩
          rw [if_pos c89] at H
          have c89b0 : (t544 == 0) = true := beq_iff_eq.mpr c89
          have c89b1 : (t544 != 0) = false := bne_eq_false_iff_eq.mpr c89
          clear c89
          replace H := Option.bind_eq_some_iff.mp H
          obtain ⟨t554, A900, H⟩ := H
          replace H : ((curve_At.f kj58 l1_0 a1_1 (wrap64 (a2))).bind fun t555 => (standbylaw55_CurvePoints.l0 kj58 (wrap64 (a2)) (wrap64 (t554 + t555)) (wrap64 ((wrap64 (a2)) + 1)) 0 l0_0 a0_1 l1_0 a1_1 t540 t543)) = some r := H
          have A90 := Aside0.mk A900
          clear A900
          replace H := Option.bind_eq_some_iff.mp H
          obtain ⟨t555, A910, H⟩ := H
          replace H : (standbylaw55_CurvePoints.l0 kj58 (wrap64 (a2)) (wrap64 (t554 + t555)) (wrap64 ((wrap64 (a2)) + 1)) 0 l0_0 a0_1 l1_0 a1_1 t540 t543) = some r := H
          have A91 := Aside0.mk A910
          clear A910
          have H' := Aside0.mk H
          clear H
          have hnb92 := NB514_515.out
          have hnc92 := NB515_514.out
          have hnb93 := NB514_529.out
          have hnc93 := NB529_514.out
          have hnb94 := NB514_537.out
          have hnc94 := NB537_514.out
          have hcz95_0 : wc.cell? ⟨gb514, 0, none⟩ = some (.slice A0_0 l0_0.length c0_0) := (blk_cell BK514.out 0).trans rfl
          have hcz95_1 : wc.cell? ⟨gb514, 1, none⟩ = some (.int .i64 a0_1) := (blk_cell BK514.out 1).trans rfl
          have hfz95_0 := blk_frozen BK514.out 0
          have hfz95_1 := blk_frozen BK514.out 1
          have hnb96 := NB515_529.out
          have hnc96 := NB529_515.out
          have hnb97 := NB515_537.out
          have hnc97 := NB537_515.out
          have hcz98_0 : wc.cell? ⟨gb515, 0, none⟩ = some (.slice A1_0 l1_0.length c1_0) := (blk_cell BK515.out 0).trans rfl
          have hcz98_1 : wc.cell? ⟨gb515, 1, none⟩ = some (.int .i64 a1_1) := (blk_cell BK515.out 1).trans rfl
          have hfz98_0 := blk_frozen BK515.out 0
          have hfz98_1 := blk_frozen BK515.out 1
          try go_wp2_with (first | ((with_reducible refine gate_callee (f := 21) rfl ?_); refine goesL_ (some 96) rfl rfl Try.func21 (by kernel_rfl) rfl #[.agg #[.slice A0_0 l0_0.length c0_0, .int .i64 a0_1], .agg #[.slice A1_0 l1_0.length c1_0, .int .i64 a1_1]] rfl (by (try simp only [List.map_toArray, List.map_cons, List.map_nil]); first | done | rfl | (simp only [List.length_drop, List.length_take]; rfl)) ?_; (with_reducible refine (curve_Convolve.calls kj58 _ _ l0_0 a0_1 _ _ l1_0 a1_1 t540 t543 t544 _ ?side1 ?side2 ?side3 ?side4 A84.out).mono ?_); (case side1 => exact qC HR0_0.out HB.out); (case side2 => exact HC0_0.out); (case side3 => exact qC HR1_0.out HB.out); (case side4 => exact HC1_0.out); rintro e w99 ⟨v541, rfl, ho0, hb⟩; refine ⟨_, rfl, ?_⟩; have n0_ := Aside0.mk (Kd.R_elder' (qR HO_530000.out) (Kd.R_base ho0) hb); have n1_ := Aside0.mk (Kd.R_elder' (qR HO_538000.out) (Kd.R_base ho0) hb); have n2_ := Aside0.mk (Kd.R_lower (Kd.R_new' (Kd.R_new' ho0 (Kd.R_lt (qR HO_530000.out))) (Kd.R_lt (qR HO_538000.out))) (below_size (qW HB.out))); have n3_ := Aside0.mk (blk_below (qB BK514.out) hb); have n4_ := Aside0.mk (blk_below (qB BK515.out) hb); have n5_ := Aside0.mk (blk_below (qB BK529.out) hb); have n6_ := Aside0.mk (blk_below (qB BK537.out) hb); have n7_ := Aside0.mk (below_step (qW HB.out) hb); clear HO_530000 HO_538000 BK514 BK515 BK529 BK537 HB; have HO_530000 := n0_; have HO_538000 := n1_; have HO542 := n2_; have BK514 := n3_; have BK515 := n4_; have BK529 := n5_; have BK537 := n6_; have HB := n7_; clear n0_ n1_ n2_ n3_ n4_ n5_ n6_ n7_; (try clear hb); (try clear hb2); (try clear hk); (try clear hi); (try clear ho0)) | ((with_reducible refine gate_dst (N := 14) rfl ?_); (try (refine gate_guard (by rfl) ?_; dsimp only)); refine box_event ?hg (N := 14) ?hd (cs := #[.slice none 0 0, .int .i64 0]) (t := 24) ?hr ?_; (case hd => rfl); (case hg => rfl); (case hr => first | (go_simp; done) | (go_simp; rfl)); intro gb545 hg w100 hbox hb; have n0_ := Aside0.mk (Kd.R_below (qR HO_530000.out) hb); have n1_ := Aside0.mk (Kd.R_below (qR HO_538000.out) hb); have n2_ := Aside0.mk (Kd.R_below (qR HO542.out) hb); have n3_ := Aside0.mk (blk_below (qB BK514.out) hb); have n4_ := Aside0.mk (blk_below (qB BK515.out) hb); have n5_ := Aside0.mk (blk_below (qB BK529.out) hb); have n6_ := Aside0.mk (blk_below (qB BK537.out) hb); have n7_ := Aside0.mk (below_step (qW HB.out) hb); have n8_ := Aside0.mk (hbox); have n9_ := Aside0.mk ((by rw [hg]; exact (below_size (qW HB.out)) : w.heap.size ≤ gb545)); have n10_ := Aside0.mk ((by rw [hg]; exact (below_size (qW HB.out)) : w.heap.size ≤ gb545)); have n11_ := Aside0.mk ((by rw [hg]; exact Nat.ne_of_lt (blk_lt (qB BK514.out)) : gb514 ≠ gb545)); have n12_ := Aside0.mk ((by rw [hg]; exact Nat.ne_of_gt (blk_lt (qB BK514.out)) : gb545 ≠ gb514)); have n13_ := Aside0.mk ((by rw [hg]; exact Nat.ne_of_lt (blk_lt (qB BK515.out)) : gb515 ≠ gb545)); have n14_ := Aside0.mk ((by rw [hg]; exact Nat.ne_of_gt (blk_lt (qB BK515.out)) : gb545 ≠ gb515)); have n15_ := Aside0.mk ((by rw [hg]; exact Nat.ne_of_lt (blk_lt (qB BK529.out)) : gb529 ≠ gb545)); have n16_ := Aside0.mk ((by rw [hg]; exact Nat.ne_of_gt (blk_lt (qB BK529.out)) : gb545 ≠ gb529)); have n17_ := Aside0.mk ((by rw [hg]; exact Nat.ne_of_lt (blk_lt (qB BK537.out)) : gb537 ≠ gb545)); have n18_ := Aside0.mk ((by rw [hg]; exact Nat.ne_of_gt (blk_lt (qB BK537.out)) : gb545 ≠ gb537)); clear HO_530000 HO_538000 HO542 BK514 BK515 BK529 BK537 HB; have HO_530000 := n0_; have HO_538000 := n1_; have HO542 := n2_; have BK514 := n3_; have BK515 := n4_; have BK529 := n5_; have BK537 := n6_; have HB := n7_; have BK545 := n8_; have GW545 := n9_; have GE545 := n10_; have NB514_545 := n11_; have NB545_514 := n12_; have NB515_545 := n13_; have NB545_515 := n14_; have NB529_545 := n15_; have NB545_529 := n16_; have NB537_545 := n17_; have NB545_537 := n18_; clear n0_ n1_ n2_ n3_ n4_ n5_ n6_ n7_ n8_ n9_ n10_ n11_ n12_ n13_ n14_ n15_ n16_ n17_ n18_ hb hbox hg; obtain ⟨Ao101, co101, eo101⟩ := Kd.R_slice HO542.out; subst eo101; have hnb102 := NB545_514.out; have hnc102 := NB514_545.out; have hnb103 := NB545_515.out; have hnc103 := NB515_545.out; have hnb104 := NB545_529.out; have hnc104 := NB529_545.out; have hnb105 := NB545_537.out; have hnc105 := NB537_545.out; have hcz106_0 : w100.cell? ⟨gb545, 0, none⟩ = some (.slice none 0 0) := (blk_cell BK545.out 0).trans rfl; have hcz106_1 : w100.cell? ⟨gb545, 1, none⟩ = some (.int .i64 0) := (blk_cell BK545.out 1).trans rfl; have hfz106_0 := blk_frozen BK545.out 0; have hfz106_1 := blk_frozen BK545.out 1; have hcz107_0 : w100.cell? ⟨gb515, 0, none⟩ = some (.slice A1_0 l1_0.length c1_0) := (blk_cell BK515.out 0).trans rfl; have hcz107_1 : w100.cell? ⟨gb515, 1, none⟩ = some (.int .i64 a1_1) := (blk_cell BK515.out 1).trans rfl; have hfz107_0 := blk_frozen BK515.out 0; have hfz107_1 := blk_frozen BK515.out 1; have hcz108_0 : w100.cell? ⟨gb514, 0, none⟩ = some (.slice A0_0 l0_0.length c0_0) := (blk_cell BK514.out 0).trans rfl; have hcz108_1 : w100.cell? ⟨gb514, 1, none⟩ = some (.int .i64 a0_1) := (blk_cell BK514.out 1).trans rfl; have hfz108_0 := blk_frozen BK514.out 0; have hfz108_1 := blk_frozen BK514.out 1) | ((with_reducible refine gate_callee (f := 21) rfl ?_); refine goesL_ (some 102) rfl rfl Try.func21 (by kernel_rfl) rfl #[.agg #[.slice A1_0 l1_0.length c1_0, .int .i64 a1_1], .agg #[.slice A0_0 l0_0.length c0_0, .int .i64 a0_1]] rfl (by (try simp only [List.map_toArray, List.map_cons, List.map_nil]); first | done | rfl | (simp only [List.length_drop, List.length_take]; rfl)) ?_; (with_reducible refine (curve_Convolve.calls kj58 _ _ l1_0 a1_1 _ _ l0_0 a0_1 t546 t549 t550 _ ?side1 ?side2 ?side3 ?side4 A85.out).mono ?_); (case side1 => exact Kd.C_below HR1_0.out (qW HB.out)); (case side2 => exact HC1_0.out); (case side3 => exact Kd.C_below HR0_0.out (qW HB.out)); (case side4 => exact HC0_0.out); rintro e w109 ⟨v547, rfl, ho0, hb⟩; refine ⟨_, rfl, ?_⟩; have n0_ := Aside0.mk (Kd.R_elder' (qR (Kd.R_mono (Kd.R_far (p := ⟨gb545, 1, none⟩) (Kd.R_far (p := ⟨gb545, 0, none⟩) (Kd.R_types HO_530000.out BK545.out (by decide)) (fun _ hk => hk.2) (.slice Ao101 t540.length co101)) (fun _ hk => hk.2) (.int .i64 t543)) (fun _ h_ => h_.1))) (Kd.R_base ho0) hb); have n1_ := Aside0.mk (Kd.R_elder' (qR (Kd.R_mono (Kd.R_far (p := ⟨gb545, 1, none⟩) (Kd.R_far (p := ⟨gb545, 0, none⟩) (Kd.R_types HO_538000.out BK545.out (by decide)) (fun _ hk => hk.2) (.slice Ao101 t540.length co101)) (fun _ hk => hk.2) (.int .i64 t543)) (fun _ h_ => h_.1))) (Kd.R_base ho0) hb); have n2_ := Aside0.mk (Kd.R_elder' (qR (Kd.R_mono (Kd.R_far (p := ⟨gb545, 1, none⟩) (Kd.R_far (p := ⟨gb545, 0, none⟩) (Kd.R_types HO542.out BK545.out (by decide)) (fun _ hk => hk.2) (.slice Ao101 t540.length co101)) (fun _ hk => hk.2) (.int .i64 t543)) (fun _ h_ => h_.1))) (Kd.R_base ho0) hb); have n3_ := Aside0.mk (Kd.R_lower (Kd.R_new' (Kd.R_new' (Kd.R_new' ho0 (Kd.R_lt (qR (Kd.R_mono (Kd.R_far (p := ⟨gb545, 1, none⟩) (Kd.R_far (p := ⟨gb545, 0, none⟩) (Kd.R_types HO_530000.out BK545.out (by decide)) (fun _ hk => hk.2) (.slice Ao101 t540.length co101)) (fun _ hk => hk.2) (.int .i64 t543)) (fun _ h_ => h_.1))))) (Kd.R_lt (qR (Kd.R_mono (Kd.R_far (p := ⟨gb545, 1, none⟩) (Kd.R_far (p := ⟨gb545, 0, none⟩) (Kd.R_types HO_538000.out BK545.out (by decide)) (fun _ hk => hk.2) (.slice Ao101 t540.length co101)) (fun _ hk => hk.2) (.int .i64 t543)) (fun _ h_ => h_.1))))) (Kd.R_lt (qR (Kd.R_mono (Kd.R_far (p := ⟨gb545, 1, none⟩) (Kd.R_far (p := ⟨gb545, 0, none⟩) (Kd.R_types HO542.out BK545.out (by decide)) (fun _ hk => hk.2) (.slice Ao101 t540.length co101)) (fun _ hk => hk.2) (.int .i64 t543)) (fun _ h_ => h_.1))))) (below_size (qW HB.out))); have n4_ := Aside0.mk (blk_below (g := gb514) (o := .cells #[.slice A0_0 l0_0.length c0_0, .int .i64 a0_1] 24 (0, 0)) (by (with_reducible repeat (first | refine blk_drewN ?_ _ | refine blk_drew ?_ | refine blk_alloc ?_ _)); refine blk_far ?_ NB514_545.out _; (with_reducible repeat (first | refine blk_drewN ?_ _ | refine blk_drew ?_ | refine blk_alloc ?_ _)); refine blk_far ?_ NB514_545.out _; exact qB BK514.out) hb); have n5_ := Aside0.mk (blk_below (g := gb515) (o := .cells #[.slice A1_0 l1_0.length c1_0, .int .i64 a1_1] 24 (0, 0)) (by (with_reducible repeat (first | refine blk_drewN ?_ _ | refine blk_drew ?_ | refine blk_alloc ?_ _)); refine blk_far ?_ NB515_545.out _; (with_reducible repeat (first | refine blk_drewN ?_ _ | refine blk_drew ?_ | refine blk_alloc ?_ _)); refine blk_far ?_ NB515_545.out _; exact qB BK515.out) hb); have n6_ := Aside0.mk (blk_below (g := gb529) (o := .cells #[.slice Ao42 t524.length co42, .int .i64 t527] 24 (0, 0)) (by (with_reducible repeat (first | refine blk_drewN ?_ _ | refine blk_drew ?_ | refine blk_alloc ?_ _)); refine blk_far ?_ NB529_545.out _; (with_reducible repeat (first | refine blk_drewN ?_ _ | refine blk_drew ?_ | refine blk_alloc ?_ _)); refine blk_far ?_ NB529_545.out _; exact qB BK529.out) hb); have n7_ := Aside0.mk (blk_below (g := gb537) (o := .cells #[.slice Ao67 t532.length co67, .int .i64 t535] 24 (0, 0)) (by (with_reducible repeat (first | refine blk_drewN ?_ _ | refine blk_drew ?_ | refine blk_alloc ?_ _)); refine blk_far ?_ NB537_545.out _; (with_reducible repeat (first | refine blk_drewN ?_ _ | refine blk_drew ?_ | refine blk_alloc ?_ _)); refine blk_far ?_ NB537_545.out _; exact qB BK537.out) hb); have n8_ := Aside0.mk (blk_below (g := gb545) (o := .cells #[.slice Ao101 t540.length co101, .int .i64 t543] 24 (0, 0)) (by (with_reducible repeat (first | refine blk_drewN ?_ _ | refine blk_drew ?_ | refine blk_alloc ?_ _)); refine blk_put (cs := #[.slice Ao101 t540.length co101, .int .i64 0]) ?_ 1 _ rfl; (with_reducible repeat (first | refine blk_drewN ?_ _ | refine blk_drew ?_ | refine blk_alloc ?_ _)); refine blk_put (cs := #[.slice none 0 0, .int .i64 0]) ?_ 0 _ rfl; exact qB BK545.out) hb); have n9_ := Aside0.mk (below_step (qW HB.out) hb); clear HO_530000 HO_538000 HO542 BK514 BK515 BK529 BK537 BK545 HB; have HO_530000 := n0_; have HO_538000 := n1_; have HO542 := n2_; have HO548 := n3_; have BK514 := n4_; have BK515 := n5_; have BK529 := n6_; have BK537 := n7_; have BK545 := n8_; have HB := n9_; clear n0_ n1_ n2_ n3_ n4_ n5_ n6_ n7_ n8_ n9_; (try clear hb); (try clear hb2); (try clear hk); (try clear hi); (try clear ho0)) | ((with_reducible refine gate_dst (N := 16) rfl ?_); (try (refine gate_guard (by rfl) ?_; dsimp only)); refine box_event ?hg (N := 16) ?hd (cs := #[.slice none 0 0, .int .i64 0]) (t := 24) ?hr ?_; (case hd => rfl); (case hg => rfl); (case hr => first | (go_simp; done) | (go_simp; rfl)); intro gb551 hg w110 hbox hb; have n0_ := Aside0.mk (Kd.R_below (qR HO_530000.out) hb); have n1_ := Aside0.mk (Kd.R_below (qR HO_538000.out) hb); have n2_ := Aside0.mk (Kd.R_below (qR HO542.out) hb); have n3_ := Aside0.mk (Kd.R_below (qR HO548.out) hb); have n4_ := Aside0.mk (blk_below (qB BK514.out) hb); have n5_ := Aside0.mk (blk_below (qB BK515.out) hb); have n6_ := Aside0.mk (blk_below (qB BK529.out) hb); have n7_ := Aside0.mk (blk_below (qB BK537.out) hb); have n8_ := Aside0.mk (blk_below (qB BK545.out) hb); have n9_ := Aside0.mk (below_step (qW HB.out) hb); have n10_ := Aside0.mk (hbox); have n11_ := Aside0.mk ((by rw [hg]; exact (below_size (qW HB.out)) : w.heap.size ≤ gb551)); have n12_ := Aside0.mk ((by rw [hg]; exact (below_size (qW HB.out)) : w.heap.size ≤ gb551)); have n13_ := Aside0.mk ((by rw [hg]; exact Nat.ne_of_lt (blk_lt (qB BK514.out)) : gb514 ≠ gb551)); have n14_ := Aside0.mk ((by rw [hg]; exact Nat.ne_of_gt (blk_lt (qB BK514.out)) : gb551 ≠ gb514)); have n15_ := Aside0.mk ((by rw [hg]; exact Nat.ne_of_lt (blk_lt (qB BK515.out)) : gb515 ≠ gb551)); have n16_ := Aside0.mk ((by rw [hg]; exact Nat.ne_of_gt (blk_lt (qB BK515.out)) : gb551 ≠ gb515)); have n17_ := Aside0.mk ((by rw [hg]; exact Nat.ne_of_lt (blk_lt (qB BK529.out)) : gb529 ≠ gb551)); have n18_ := Aside0.mk ((by rw [hg]; exact Nat.ne_of_gt (blk_lt (qB BK529.out)) : gb551 ≠ gb529)); have n19_ := Aside0.mk ((by rw [hg]; exact Nat.ne_of_lt (blk_lt (qB BK537.out)) : gb537 ≠ gb551)); have n20_ := Aside0.mk ((by rw [hg]; exact Nat.ne_of_gt (blk_lt (qB BK537.out)) : gb551 ≠ gb537)); have n21_ := Aside0.mk ((by rw [hg]; exact Nat.ne_of_lt (blk_lt (qB BK545.out)) : gb545 ≠ gb551)); have n22_ := Aside0.mk ((by rw [hg]; exact Nat.ne_of_gt (blk_lt (qB BK545.out)) : gb551 ≠ gb545)); clear HO_530000 HO_538000 HO542 HO548 BK514 BK515 BK529 BK537 BK545 HB; have HO_530000 := n0_; have HO_538000 := n1_; have HO542 := n2_; have HO548 := n3_; have BK514 := n4_; have BK515 := n5_; have BK529 := n6_; have BK537 := n7_; have BK545 := n8_; have HB := n9_; have BK551 := n10_; have GW551 := n11_; have GE551 := n12_; have NB514_551 := n13_; have NB551_514 := n14_; have NB515_551 := n15_; have NB551_515 := n16_; have NB529_551 := n17_; have NB551_529 := n18_; have NB537_551 := n19_; have NB551_537 := n20_; have NB545_551 := n21_; have NB551_545 := n22_; clear n0_ n1_ n2_ n3_ n4_ n5_ n6_ n7_ n8_ n9_ n10_ n11_ n12_ n13_ n14_ n15_ n16_ n17_ n18_ n19_ n20_ n21_ n22_ hb hbox hg; obtain ⟨Ao111, co111, eo111⟩ := Kd.R_slice HO548.out; subst eo111; have hnb112 := NB551_514.out; have hnc112 := NB514_551.out; have hnb113 := NB551_515.out; have hnc113 := NB515_551.out; have hnb114 := NB551_529.out; have hnc114 := NB529_551.out; have hnb115 := NB551_537.out; have hnc115 := NB537_551.out; have hnb116 := NB551_545.out; have hnc116 := NB545_551.out; have hcz117_0 : w110.cell? ⟨gb551, 0, none⟩ = some (.slice none 0 0) := (blk_cell BK551.out 0).trans rfl; have hcz117_1 : w110.cell? ⟨gb551, 1, none⟩ = some (.int .i64 0) := (blk_cell BK551.out 1).trans rfl; have hfz117_0 := blk_frozen BK551.out 0; have hfz117_1 := blk_frozen BK551.out 1; have hcz118_0 : w110.cell? ⟨gb545, 0, none⟩ = some (.slice Ao101 t540.length co101) := (blk_cell BK545.out 0).trans rfl; have hcz118_1 : w110.cell? ⟨gb545, 1, none⟩ = some (.int .i64 t543) := (blk_cell BK545.out 1).trans rfl; have hfz118_0 := blk_frozen BK545.out 0; have hfz118_1 := blk_frozen BK545.out 1) | (go_at_call 20; (with_reducible refine (standbyref55_Same.calls kj58 _ _ t540 t543 _ _ t546 t549 true _ ?side1 ?side2 ?side3 ?side4 A87.out).mono ?_); (case side1 => refine (Kd.R_reads' (e := 3) (base := w.heap.size) (ok := fun k_ => (((True ∧ some k_ ≠ (.slice Ao42 t524.length co42 : Value).ownBlock) ∧ some k_ ≠ (.slice Ao67 t532.length co67 : Value).ownBlock) ∧ some k_ ≠ (.slice Ao111 t546.length co111 : Value).ownBlock)) (n := t540.length) (c := co101) ?_).2.2; exact (qR (Kd.R_mono (Kd.R_far (p := ⟨gb551, 1, none⟩) (Kd.R_far (p := ⟨gb551, 0, none⟩) (Kd.R_types HO542.out BK551.out (by decide)) (fun _ hk => hk.2) (.slice Ao111 t546.length co111)) (fun _ hk => hk.2) (.int .i64 t549)) (fun _ h_ => h_.1)))); (case side2 => exact (Kd.R_reads' HO542.out).2.1); (case side3 => refine (Kd.R_reads' (e := 3) (base := w.heap.size) (ok := fun k_ => (((True ∧ some k_ ≠ (.slice Ao42 t524.length co42 : Value).ownBlock) ∧ some k_ ≠ (.slice Ao67 t532.length co67 : Value).ownBlock) ∧ some k_ ≠ (.slice Ao101 t540.length co101 : Value).ownBlock)) (n := t546.length) (c := co111) ?_).2.2; exact (qR (Kd.R_mono (Kd.R_far (p := ⟨gb551, 1, none⟩) (Kd.R_far (p := ⟨gb551, 0, none⟩) (Kd.R_types HO548.out BK551.out (by decide)) (fun _ hk => hk.2) (.slice Ao111 t546.length co111)) (fun _ hk => hk.2) (.int .i64 t549)) (fun _ h_ => h_.1)))); (case side4 => exact (Kd.R_reads' HO548.out).2.1); rintro e w119 ⟨rfl, hb⟩; have n0_ := Aside0.mk (Kd.R_below (qR (Kd.R_mono (Kd.R_far (p := ⟨gb551, 1, none⟩) (Kd.R_far (p := ⟨gb551, 0, none⟩) (Kd.R_types HO_530000.out BK551.out (by decide)) (fun _ hk => hk.2) (.slice Ao111 t546.length co111)) (fun _ hk => hk.2) (.int .i64 t549)) (fun _ h_ => h_.1))) hb); have n1_ := Aside0.mk (Kd.R_below (qR (Kd.R_mono (Kd.R_far (p := ⟨gb551, 1, none⟩) (Kd.R_far (p := ⟨gb551, 0, none⟩) (Kd.R_types HO_538000.out BK551.out (by decide)) (fun _ hk => hk.2) (.slice Ao111 t546.length co111)) (fun _ hk => hk.2) (.int .i64 t549)) (fun _ h_ => h_.1))) hb); have n2_ := Aside0.mk (Kd.R_below (qR (Kd.R_mono (Kd.R_far (p := ⟨gb551, 1, none⟩) (Kd.R_far (p := ⟨gb551, 0, none⟩) (Kd.R_types HO542.out BK551.out (by decide)) (fun _ hk => hk.2) (.slice Ao111 t546.length co111)) (fun _ hk => hk.2) (.int .i64 t549)) (fun _ h_ => h_.1))) hb); have n3_ := Aside0.mk (Kd.R_below (qR (Kd.R_mono (Kd.R_far (p := ⟨gb551, 1, none⟩) (Kd.R_far (p := ⟨gb551, 0, none⟩) (Kd.R_types HO548.out BK551.out (by decide)) (fun _ hk => hk.2) (.slice Ao111 t546.length co111)) (fun _ hk => hk.2) (.int .i64 t549)) (fun _ h_ => h_.1))) hb); have n4_ := Aside0.mk (blk_below (g := gb514) (o := .cells #[.slice A0_0 l0_0.length c0_0, .int .i64 a0_1] 24 (0, 0)) (by (with_reducible repeat (first | refine blk_drewN ?_ _ | refine blk_drew ?_ | refine blk_alloc ?_ _)); refine blk_far ?_ NB514_551.out _; (with_reducible repeat (first | refine blk_drewN ?_ _ | refine blk_drew ?_ | refine blk_alloc ?_ _)); refine blk_far ?_ NB514_551.out _; exact qB BK514.out) hb); have n5_ := Aside0.mk (blk_below (g := gb515) (o := .cells #[.slice A1_0 l1_0.length c1_0, .int .i64 a1_1] 24 (0, 0)) (by (with_reducible repeat (first | refine blk_drewN ?_ _ | refine blk_drew ?_ | refine blk_alloc ?_ _)); refine blk_far ?_ NB515_551.out _; (with_reducible repeat (first | refine blk_drewN ?_ _ | refine blk_drew ?_ | refine blk_alloc ?_ _)); refine blk_far ?_ NB515_551.out _; exact qB BK515.out) hb); have n6_ := Aside0.mk (blk_below (g := gb529) (o := .cells #[.slice Ao42 t524.length co42, .int .i64 t527] 24 (0, 0)) (by (with_reducible repeat (first | refine blk_drewN ?_ _ | refine blk_drew ?_ | refine blk_alloc ?_ _)); refine blk_far ?_ NB529_551.out _; (with_reducible repeat (first | refine blk_drewN ?_ _ | refine blk_drew ?_ | refine blk_alloc ?_ _)); refine blk_far ?_ NB529_551.out _; exact qB BK529.out) hb); have n7_ := Aside0.mk (blk_below (g := gb537) (o := .cells #[.slice Ao67 t532.length co67, .int .i64 t535] 24 (0, 0)) (by (with_reducible repeat (first | refine blk_drewN ?_ _ | refine blk_drew ?_ | refine blk_alloc ?_ _)); refine blk_far ?_ NB537_551.out _; (with_reducible repeat (first | refine blk_drewN ?_ _ | refine blk_drew ?_ | refine blk_alloc ?_ _)); refine blk_far ?_ NB537_551.out _; exact qB BK537.out) hb); have n8_ := Aside0.mk (blk_below (g := gb545) (o := .cells #[.slice Ao101 t540.length co101, .int .i64 t543] 24 (0, 0)) (by (with_reducible repeat (first | refine blk_drewN ?_ _ | refine blk_drew ?_ | refine blk_alloc ?_ _)); refine blk_far ?_ NB545_551.out _; (with_reducible repeat (first | refine blk_drewN ?_ _ | refine blk_drew ?_ | refine blk_alloc ?_ _)); refine blk_far ?_ NB545_551.out _; exact qB BK545.out) hb); have n9_ := Aside0.mk (blk_below (g := gb551) (o := .cells #[.slice Ao111 t546.length co111, .int .i64 t549] 24 (0, 0)) (by (with_reducible repeat (first | refine blk_drewN ?_ _ | refine blk_drew ?_ | refine blk_alloc ?_ _)); refine blk_put (cs := #[.slice Ao111 t546.length co111, .int .i64 0]) ?_ 1 _ rfl; (with_reducible repeat (first | refine blk_drewN ?_ _ | refine blk_drew ?_ | refine blk_alloc ?_ _)); refine blk_put (cs := #[.slice none 0 0, .int .i64 0]) ?_ 0 _ rfl; exact qB BK551.out) hb); have n10_ := Aside0.mk (below_step (qW HB.out) hb); clear HO_530000 HO_538000 HO542 HO548 BK514 BK515 BK529 BK537 BK545 BK551 HB; have HO_530000 := n0_; have HO_538000 := n1_; have HO542 := n2_; have HO548 := n3_; have BK514 := n4_; have BK515 := n5_; have BK529 := n6_; have BK537 := n7_; have BK545 := n8_; have BK551 := n9_; have HB := n10_; clear n0_ n1_ n2_ n3_ n4_ n5_ n6_ n7_ n8_ n9_ n10_; (try clear hb); (try clear hb2); (try clear hk); (try clear hi)))
          have n0_ := Aside0.mk (Kd.R_drew HO_530000.out)
          have n1_ := Aside0.mk (Kd.R_drew HO_538000.out)
          have n2_ := Aside0.mk (Kd.R_drew HO542.out)
          have n3_ := Aside0.mk (Kd.R_drew HO548.out)
          have n4_ := Aside0.mk (blk_drew BK514.out)
          have n5_ := Aside0.mk (blk_drew BK515.out)
          have n6_ := Aside0.mk (blk_drew BK529.out)
          have n7_ := Aside0.mk (blk_drew BK537.out)
          have n8_ := Aside0.mk (blk_drew BK545.out)
          have n9_ := Aside0.mk (blk_drew BK551.out)
          have n10_ := Aside0.mk (below_drew1 HB.out)
          clear HO_530000 HO_538000 HO542 HO548 BK514 BK515 BK529 BK537 BK545 BK551 HB
          have HO_530000 := n0_
          have HO_538000 := n1_
          have HO542 := n2_
          have HO548 := n3_
          have BK514 := n4_
          have BK515 := n5_
          have BK529 := n6_
          have BK537 := n7_
          have BK545 := n8_
          have BK551 := n9_
          have HB := n10_
          clear n0_ n1_ n2_ n3_ n4_ n5_ n6_ n7_ n8_ n9_ n10_
          refine start_ (n := 7) (S := fun w' => w'.cell? ⟨gb514, 0, none⟩ = some (.slice A0_0 l0_0.length c0_0) ∧ w'.cell? ⟨gb514, 1, none⟩ = some (.int .i64 a0_1) ∧ w'.cell? ⟨gb515, 0, none⟩ = some (.slice A1_0 l1_0.length c1_0) ∧ w'.cell? ⟨gb515, 1, none⟩ = some (.int .i64 a1_1)) (ds := []) #[false, false, false, false, false, false, false] (by kernel_rfl) rfl rfl ⟨(blk_cell BK514.out 0).trans rfl, (blk_cell BK514.out 1).trans rfl, (blk_cell BK515.out 0).trans rfl, (blk_cell BK515.out 1).trans rfl⟩ (fun hHeld => ?_)
          generalize w119.drew = w120 at HO_530000 HO_538000 HO542 HO548 BK514 BK515 BK529 BK537 BK545 BK551 HB hHeld ⊢
          refine pure_ (i := 3) (N := some 120) (v := ?_) (a' := ?_) #[false, false, false, true, false, false, false] rfl rfl (by kernel_rfl) (fun _ _ _ h => h) (Or.inl ⟨by rfl, ?_⟩) ?_ ?_; rotate_left
          ·intro w'
           go_simp
           with_reducible rfl
          rotate_left
          ·simp only [Act.put, List.setIfInBounds_toArray, List.set_cons_zero, List.set_cons_succ, i64_w, i32_w]
           rfl
          refine take_ (i := 0) (N := some 117) (v := ?_) (a' := ?_) #[true, false, false, true, false, false, false] rfl rfl (by kernel_rfl) (fun _ _ _ h => h) (Or.inl ⟨by rfl, ?_⟩) hHeld ?_ ?_; rotate_left
          ·rintro w' ⟨s0, s1, s2, s3⟩
           go_simp
           with_reducible rfl
          rotate_left
          ·simp only [Act.put, List.setIfInBounds_toArray, List.set_cons_zero, List.set_cons_succ, i64_w, i32_w]
           rfl
          refine take_ (i := 2) (N := some 119) (v := ?_) (a' := ?_) #[true, false, true, true, false, false, false] rfl rfl (by kernel_rfl) (fun _ _ _ h => h) (Or.inl ⟨by rfl, ?_⟩) hHeld ?_ ?_; rotate_left
          ·rintro w' ⟨s0, s1, s2, s3⟩
           go_simp
           with_reducible rfl
          rotate_left
          ·simp only [Act.put, List.setIfInBounds_toArray, List.set_cons_zero, List.set_cons_succ, i64_w, i32_w]
           rfl
          refine one_ (i := 1) (N := some 118) #[true, true, true, true, false, false, false] rfl rfl (by kernel_rfl) (by decide) (fun K hK => ?_)
          refine goes_ Try.func18 (by kernel_rfl) rfl #[.agg #[.slice A0_0 l0_0.length c0_0, .int .i64 a0_1], .int .i64 0] (by rfl) rfl rfl (by (try simp only [List.map_toArray, List.map_cons, List.map_nil]); first | done | rfl | (simp only [List.length_drop, List.length_take]; rfl)) ?_
          with_reducible refine (curve_At.calls kj58 _ _ l0_0 a0_1 0 t554 _ ?side1 ?side2 A90.out).mono ?_
          (case side1 => exact qC HR0_0.out HB.out)
          (case side2 => exact HC0_0.out)
          rintro e w121 ⟨rfl, hb⟩
          refine ⟨_, rfl, ?_⟩
          have n0_ := Aside0.mk (Kd.R_below (qR HO_530000.out) hb)
          have n1_ := Aside0.mk (Kd.R_below (qR HO_538000.out) hb)
          have n2_ := Aside0.mk (Kd.R_below (qR HO542.out) hb)
          have n3_ := Aside0.mk (Kd.R_below (qR HO548.out) hb)
          have n4_ := Aside0.mk (blk_below (qB BK514.out) hb)
          have n5_ := Aside0.mk (blk_below (qB BK515.out) hb)
          have n6_ := Aside0.mk (blk_below (qB BK529.out) hb)
          have n7_ := Aside0.mk (blk_below (qB BK537.out) hb)
          have n8_ := Aside0.mk (blk_below (qB BK545.out) hb)
          have n9_ := Aside0.mk (blk_below (qB BK551.out) hb)
          have n10_ := Aside0.mk (below_step (qW HB.out) hb)
          clear HO_530000 HO_538000 HO542 HO548 BK514 BK515 BK529 BK537 BK545 BK551 HB
          have HO_530000 := n0_
          have HO_538000 := n1_
          have HO542 := n2_
          have HO548 := n3_
          have BK514 := n4_
          have BK515 := n5_
          have BK529 := n6_
          have BK537 := n7_
          have BK545 := n8_
          have BK551 := n9_
          have HB := n10_
          clear n0_ n1_ n2_ n3_ n4_ n5_ n6_ n7_ n8_ n9_ n10_
          (try clear hb); (try clear hb2); (try clear hk); (try clear hi)
          refine hK.out _ _ ⟨(blk_cell BK514.out 0).trans rfl, (blk_cell BK514.out 1).trans rfl, (blk_cell BK515.out 0).trans rfl, (blk_cell BK515.out 1).trans rfl⟩ (fun hHeld => ?_); clear hK K
          refine norm_ (a' := ?_) ?_ ?_; rotate_left
          ·show Act.put _ (some 118) _ = _
           simp only [Act.put, List.setIfInBounds_toArray, List.set_cons_zero, List.set_cons_succ, i64_w, i32_w]
           rfl
          refine one_ (i := 4) (N := some 121) #[true, true, true, true, true, false, false] rfl rfl (by kernel_rfl) (by decide) (fun K hK => ?_)
          refine goes_ Try.func18 (by kernel_rfl) rfl #[.agg #[.slice A1_0 l1_0.length c1_0, .int .i64 a1_1], .int .i64 (wrap64 (a2))] (by rfl) rfl rfl (by (try simp only [List.map_toArray, List.map_cons, List.map_nil]); first | done | rfl | (simp only [List.length_drop, List.length_take]; rfl)) ?_
          with_reducible refine (curve_At.calls kj58 _ _ l1_0 a1_1 (wrap64 (a2)) t555 _ ?side1 ?side2 A91.out).mono ?_
          (case side1 => exact qC HR1_0.out HB.out)
          (case side2 => exact HC1_0.out)
          rintro e w122 ⟨rfl, hb⟩
          refine ⟨_, rfl, ?_⟩
          have n0_ := Aside0.mk (Kd.R_below (qR HO_530000.out) hb)
          have n1_ := Aside0.mk (Kd.R_below (qR HO_538000.out) hb)
          have n2_ := Aside0.mk (Kd.R_below (qR HO542.out) hb)
          have n3_ := Aside0.mk (Kd.R_below (qR HO548.out) hb)
          have n4_ := Aside0.mk (blk_below (qB BK514.out) hb)
          have n5_ := Aside0.mk (blk_below (qB BK515.out) hb)
          have n6_ := Aside0.mk (blk_below (qB BK529.out) hb)
          have n7_ := Aside0.mk (blk_below (qB BK537.out) hb)
          have n8_ := Aside0.mk (blk_below (qB BK545.out) hb)
          have n9_ := Aside0.mk (blk_below (qB BK551.out) hb)
          have n10_ := Aside0.mk (below_step (qW HB.out) hb)
          clear HO_530000 HO_538000 HO542 HO548 BK514 BK515 BK529 BK537 BK545 BK551 HB
          have HO_530000 := n0_
          have HO_538000 := n1_
          have HO542 := n2_
          have HO548 := n3_
          have BK514 := n4_
          have BK515 := n5_
          have BK529 := n6_
          have BK537 := n7_
          have BK545 := n8_
          have BK551 := n9_
          have HB := n10_
          clear n0_ n1_ n2_ n3_ n4_ n5_ n6_ n7_ n8_ n9_ n10_
          (try clear hb); (try clear hb2); (try clear hk); (try clear hi)
          refine hK.out _ _ ⟨(blk_cell BK514.out 0).trans rfl, (blk_cell BK514.out 1).trans rfl, (blk_cell BK515.out 0).trans rfl, (blk_cell BK515.out 1).trans rfl⟩ (fun hHeld => ?_); clear hK K
          refine norm_ (a' := ?_) ?_ ?_; rotate_left
          ·show Act.put _ (some 121) _ = _
           simp only [Act.put, List.setIfInBounds_toArray, List.set_cons_zero, List.set_cons_succ, i64_w, i32_w]
           rfl
          refine pure_ (i := 5) (N := some 122) (v := ?_) (a' := ?_) #[true, true, true, true, true, true, false] rfl rfl (by kernel_rfl) (fun _ _ _ h => h) (Or.inl ⟨by rfl, ?_⟩) ?_ ?_; rotate_left
          ·intro w'
           go_simp
           with_reducible rfl
          rotate_left
          ·simp only [Act.put, List.setIfInBounds_toArray, List.set_cons_zero, List.set_cons_succ, i64_w, i32_w]
           rfl
          refine pure_ (i := 6) (N := some 18) (v := ?_) (a' := ?_) #[true, true, true, true, true, true, true] rfl rfl (by kernel_rfl) (fun _ _ _ h => h) (Or.inl ⟨by rfl, ?_⟩) ?_ ?_; rotate_left
          ·intro w'
           go_simp
           with_reducible rfl
          rotate_left
          ·simp only [Act.put, List.setIfInBounds_toArray, List.set_cons_zero, List.set_cons_succ, i64_w, i32_w]
           rfl
          refine done_ (by kernel_rfl) ?_
          try go_wp2
          go_loopg [18, 125] kj58 (fun kq v18 v125 w' => ∃ (x18_4 : Int) (x125_4 : Int), v18 = .int .i64 x18_4 ∧ v125 = .int .i64 x125_4 ∧ Aside0 (standbylaw55_CurvePoints.l0 kq (wrap64 (a2)) x18_4 (wrap64 ((wrap64 (a2)) + 1)) x125_4 l0_0 a0_1 l1_0 a1_1 t540 t543 = some r) ∧ Aside0 (kq ≤ kj58) ∧ Aside0 (Kd.R (Kd.int .i64) 3 w' w.heap.size (fun k_ => some k_ ≠ ((.slice Ao67 t532.length co67) : Value).ownBlock ∧ some k_ ≠ ((.slice Ao101 t540.length co101) : Value).ownBlock ∧ some k_ ≠ ((.slice Ao111 t546.length co111) : Value).ownBlock) (.slice Ao42 t524.length co42) t524) ∧ Aside0 (Kd.R (Kd.int .i64) 3 w' w.heap.size (fun k_ => some k_ ≠ ((.slice Ao42 t524.length co42) : Value).ownBlock ∧ some k_ ≠ ((.slice Ao101 t540.length co101) : Value).ownBlock ∧ some k_ ≠ ((.slice Ao111 t546.length co111) : Value).ownBlock) (.slice Ao67 t532.length co67) t532) ∧ Aside0 (Kd.R (Kd.int .i64) 3 w' w.heap.size (fun k_ => some k_ ≠ ((.slice Ao42 t524.length co42) : Value).ownBlock ∧ some k_ ≠ ((.slice Ao67 t532.length co67) : Value).ownBlock ∧ some k_ ≠ ((.slice Ao111 t546.length co111) : Value).ownBlock) (.slice Ao101 t540.length co101) t540) ∧ Aside0 (Kd.R (Kd.int .i64) 3 w' w.heap.size (fun k_ => some k_ ≠ ((.slice Ao42 t524.length co42) : Value).ownBlock ∧ some k_ ≠ ((.slice Ao67 t532.length co67) : Value).ownBlock ∧ some k_ ≠ ((.slice Ao101 t540.length co101) : Value).ownBlock) (.slice Ao111 t546.length co111) t546) ∧ Aside0 (w'.heap[gb514]? = some (.cells #[(.slice A0_0 l0_0.length c0_0), .int .i64 a0_1] 24 (0, 0))) ∧ Aside0 (w'.heap[gb515]? = some (.cells #[(.slice A1_0 l1_0.length c1_0), .int .i64 a1_1] 24 (0, 0))) ∧ Aside0 (w'.heap[gb529]? = some (.cells #[(.slice Ao42 t524.length co42), .int .i64 t527] 24 (0, 0))) ∧ Aside0 (w'.heap[gb537]? = some (.cells #[(.slice Ao67 t532.length co67), .int .i64 t535] 24 (0, 0))) ∧ Aside0 (w'.heap[gb545]? = some (.cells #[(.slice Ao101 t540.length co101), .int .i64 t543] 24 (0, 0))) ∧ Aside0 (w'.heap[gb551]? = some (.cells #[(.slice Ao111 t546.length co111), .int .i64 t549] 24 (0, 0))) ∧ Aside0 (Below w.heap.size w w'))
          case atStart => exact ⟨(wrap64 (t554 + t555)), (0), (by first | rfl | (simp; done) | (simp [*]; done)), (by first | rfl | (simp; done) | (simp [*]; done)), H', ⟨Nat.le_refl _⟩, ⟨by exact qR (Kd.R_mono HO_530000.out (fun _ hk => ⟨hk.1.1, ⟨hk.1.2, hk.2⟩⟩))⟩, ⟨by exact qR (Kd.R_mono HO_538000.out (fun _ hk => ⟨hk.1.1, ⟨hk.1.2, hk.2⟩⟩))⟩, ⟨by exact qR (Kd.R_mono HO542.out (fun _ hk => ⟨hk.1.1.2, ⟨hk.1.2, hk.2⟩⟩))⟩, ⟨by exact qR (Kd.R_mono HO548.out (fun _ hk => ⟨hk.1.1.2, ⟨hk.1.2, hk.2⟩⟩))⟩, ⟨by exact qB BK514.out⟩, ⟨by exact qB BK515.out⟩, ⟨by exact qB BK529.out⟩, ⟨by exact qB BK537.out⟩, ⟨by exact qB BK545.out⟩, ⟨by exact qB BK551.out⟩, ⟨by repeat (first | (with_reducible first | exact HB.out | apply below_alloc | apply pw_below_drewN | apply below_drew1 | refine below_set ?_ GE514.out | refine below_set ?_ GE515.out | refine below_set ?_ GE529.out | refine below_set ?_ GE537.out | refine below_set ?_ GE545.out | refine below_set ?_ GE551.out) | exact HB.out)⟩⟩
          case round =>
           clear H'
           try clear c1
           try clear c2
           try clear p2
           try clear c3
           try clear c4
           try clear c5
           try clear c6
           try clear p6
           try clear c7
           try clear c7b0
           try clear c7b1
           try clear c8
           try clear c9
           try clear c10
           try clear c10b0
           try clear c10b1
           try clear c11
           try clear c15
           try clear c15b0
           try clear c15b1
           try clear c17
           try clear c18
           try clear c21
           try clear c23
           try clear c27
           try clear c30
           try clear c32
           try clear c37
           try clear c43
           try clear c44
           try clear c46
           try clear c46b0
           try clear c46b1
           try clear c48
           try clear c48b0
           try clear c48b1
           try clear c51
           try clear c52
           try clear c57
           try clear c60
           try clear c61
           try clear c63
           try clear p64
           try clear c68
           try clear c69
           try clear c70
           try clear c72
           try clear c72b0
           try clear c72b1
           try clear c74
           try clear c74b0
           try clear c74b1
           try clear c76
           try clear c77
           try clear c78
           try clear c83
           try clear c86
           try clear c86b0
           try clear c86b1
           try clear c88
           try clear c89
           try clear c89b0
           try clear c89b1
           try clear c92
           try clear c93
           try clear c94
           try clear c96
           try clear c97
           try clear c102
           try clear c103
           try clear c104
           try clear c105
           try clear c112
           try clear c113
           try clear c114
           try clear c115
           try clear c116
           try clear hcz106_0
           try clear hcz106_1
           try clear hcz107_0
           try clear hcz107_1
           try clear hcz108_0
           try clear hcz108_1
           try clear hcz117_0
           try clear hcz117_1
           try clear hcz118_0
           try clear hcz118_1
           try clear hcz12_0
           try clear hcz12_1
           try clear hcz13_0
           try clear hcz13_1
           try clear hcz18_0
           try clear hcz18_1
           try clear hcz19_0
           try clear hcz19_1
           try clear hcz21_0
           try clear hcz21_1
           try clear hcz24_0
           try clear hcz24_1
           try clear hcz25_0
           try clear hcz25_1
           try clear hcz38_0
           try clear hcz38_1
           try clear hcz39_0
           try clear hcz39_1
           try clear hcz45_0
           try clear hcz45_1
           try clear hcz53_0
           try clear hcz53_1
           try clear hcz55_0
           try clear hcz55_1
           try clear hcz62_0
           try clear hcz62_1
           try clear hcz64_0
           try clear hcz64_1
           try clear hcz71_0
           try clear hcz71_1
           try clear hcz79_0
           try clear hcz79_1
           try clear hcz81_0
           try clear hcz81_1
           try clear hcz95_0
           try clear hcz95_1
           try clear hcz98_0
           try clear hcz98_1
           try clear hcz9_0
           try clear hcz9_1
           try clear hfz106_0
           try clear hfz106_1
           try clear hfz107_0
           try clear hfz107_1
           try clear hfz108_0
           try clear hfz108_1
           try clear hfz117_0
           try clear hfz117_1
           try clear hfz118_0
           try clear hfz118_1
           try clear hfz12_0
           try clear hfz12_1
           try clear hfz13_0
           try clear hfz13_1
           try clear hfz18_0
           try clear hfz18_1
           try clear hfz19_0
           try clear hfz19_1
           try clear hfz21_0
           try clear hfz21_1
           try clear hfz24_0
           try clear hfz24_1
           try clear hfz25_0
           try clear hfz25_1
           try clear hfz38_0
           try clear hfz38_1
           try clear hfz39_0
           try clear hfz39_1
           try clear hfz45_0
           try clear hfz45_1
           try clear hfz53_0
           try clear hfz53_1
           try clear hfz55_0
           try clear hfz55_1
           try clear hfz62_0
           try clear hfz62_1
           try clear hfz64_0
           try clear hfz64_1
           try clear hfz71_0
           try clear hfz71_1
           try clear hfz79_0
           try clear hfz79_1
           try clear hfz81_0
           try clear hfz81_1
           try clear hfz95_0
           try clear hfz95_1
           try clear hfz98_0
           try clear hfz98_1
           try clear hfz9_0
           try clear hfz9_1
           try clear p2
           try clear p6
           try clear p64
           obtain ⟨x18_4, x125_4, rfl, rfl, HA, HK4, HO_530000, HO_538000, HO_546000, HO_552000, BK514, BK515, BK529, BK537, BK545, BK551, HB⟩ := hrel
           cases gk with
           | zero => exact absurd HA.out (by simp [standbylaw55_CurvePoints.l0])
           | succ k4 =>
            have H := HA.out
            clear HA
            simp only [standbylaw55_CurvePoints.l0] at H
            by_cases c123 : x125_4 < (wrap64 ((wrap64 (a2)) + 1))
            case neg =>
             rw [if_neg c123] at H
             have c123b0 : decide (x125_4 < (wrap64 ((wrap64 (a2)) + 1))) = false := decide_eq_false c123
             clear c123
             replace H := Option.bind_eq_some_iff.mp H
             obtain ⟨t558, A1300, H⟩ := H
             replace H : (if t558 = 0 then ((curve_At.f k4 t540 t543 (wrap64 (a2))).bind fun t559 => (if t559 = x18_4 then ((standbylaw55_awake.f k4).bind fun t560 => (some t560)) else (none))) else (none)) = some r := H
             have A130 := Aside0.mk A1300
             clear A1300
             by_cases c131 : t558 = 0
             case neg =>
              rw [if_neg c131] at H
              exact absurd H (by simp)
             rw [if_pos c131] at H
             have c131b0 : (t558 == 0) = true := beq_iff_eq.mpr c131
             have c131b1 : (t558 != 0) = false := bne_eq_false_iff_eq.mpr c131
             clear c131
             replace H := Option.bind_eq_some_iff.mp H
             obtain ⟨t559, A1320, H⟩ := H
             replace H : (if t559 = x18_4 then ((standbylaw55_awake.f k4).bind fun t560 => (some t560)) else (none)) = some r := H
             have A132 := Aside0.mk A1320
             clear A1320
             by_cases c133 : t559 = x18_4
             case neg =>
              rw [if_neg c133] at H
              exact absurd H (by simp)
             rw [if_pos c133] at H
             have c133b0 : (t559 == x18_4) = true := beq_iff_eq.mpr c133
             have c133b1 : (t559 != x18_4) = false := bne_eq_false_iff_eq.mpr c133
             clear c133
             replace H := Option.bind_eq_some_iff.mp H
             obtain ⟨t560, A1340, H⟩ := H
             replace H : (some t560) = some r := H
             have A134 := Aside0.mk A1340
             clear A1340
             obtain rfl := Option.some.inj H
             have hnb135 := NB545_514.out
             have hnc135 := NB514_545.out
             have hnb136 := NB545_515.out
             have hnc136 := NB515_545.out
             have hnb137 := NB545_529.out
             have hnc137 := NB529_545.out
             have hnb138 := NB545_537.out
             have hnc138 := NB537_545.out
             have hnb139 := NB545_551.out
             have hnc139 := NB551_545.out
             have hcz140_0 : wr.cell? ⟨gb545, 0, none⟩ = some (.slice Ao101 t540.length co101) := (blk_cell BK545.out 0).trans rfl
             have hcz140_1 : wr.cell? ⟨gb545, 1, none⟩ = some (.int .i64 t543) := (blk_cell BK545.out 1).trans rfl
             have hfz140_0 := blk_frozen BK545.out 0
             have hfz140_1 := blk_frozen BK545.out 1
             go_wp2_with (first | ((with_reducible refine gate_callee (f := 16) rfl ?_); refine goesL_ (some 141) rfl rfl Try.func16 (by kernel_rfl) rfl #[.agg #[.slice Ao101 t540.length co101, .int .i64 t543]] rfl (by (try simp only [List.map_toArray, List.map_cons, List.map_nil]); first | done | rfl | (simp only [List.length_drop, List.length_take]; rfl)) ?_; (with_reducible refine (curve_Check.calls k4 _ _ t540 t543 t558 _ ?side1 ?side2 A130.out).mono ?_); (case side1 => repeat (first | exact (Kd.R_reads' HO_546000.out).2.2 | (with_reducible refine Kd.C_alloc ?_ _) | (with_reducible refine Kd.C_drewN ?_ _) | (with_reducible refine Kd.C_drew ?_))); (case side2 => exact (Kd.R_reads' HO_546000.out).2.1); rintro e w141 ⟨rfl, hb⟩; refine ⟨_, rfl, ?_⟩; have n0_ := Aside0.mk (Kd.R_below (qR HO_530000.out) hb); have n1_ := Aside0.mk (Kd.R_below (qR HO_538000.out) hb); have n2_ := Aside0.mk (Kd.R_below (qR HO_546000.out) hb); have n3_ := Aside0.mk (Kd.R_below (qR HO_552000.out) hb); have n4_ := Aside0.mk (blk_below (qB BK514.out) hb); have n5_ := Aside0.mk (blk_below (qB BK515.out) hb); have n6_ := Aside0.mk (blk_below (qB BK529.out) hb); have n7_ := Aside0.mk (blk_below (qB BK537.out) hb); have n8_ := Aside0.mk (blk_below (qB BK545.out) hb); have n9_ := Aside0.mk (blk_below (qB BK551.out) hb); have n10_ := Aside0.mk (below_step (qW HB.out) hb); clear HO_530000 HO_538000 HO_546000 HO_552000 BK514 BK515 BK529 BK537 BK545 BK551 HB; have HO_530000 := n0_; have HO_538000 := n1_; have HO_546000 := n2_; have HO_552000 := n3_; have BK514 := n4_; have BK515 := n5_; have BK529 := n6_; have BK537 := n7_; have BK545 := n8_; have BK551 := n9_; have HB := n10_; clear n0_ n1_ n2_ n3_ n4_ n5_ n6_ n7_ n8_ n9_ n10_; (try clear hb); (try clear hb2); (try clear hk); (try clear hi); have hcz142_0 : w141.cell? ⟨gb545, 0, none⟩ = some (.slice Ao101 t540.length co101) := (blk_cell BK545.out 0).trans rfl; have hcz142_1 : w141.cell? ⟨gb545, 1, none⟩ = some (.int .i64 t543) := (blk_cell BK545.out 1).trans rfl; have hfz142_0 := blk_frozen BK545.out 0; have hfz142_1 := blk_frozen BK545.out 1) | (go_at_call 18; (with_reducible refine (curve_At.calls k4 _ _ t540 t543 (wrap64 (a2)) t559 _ ?side1 ?side2 A132.out).mono ?_); (case side1 => repeat (first | exact (Kd.R_reads' HO_546000.out).2.2 | (with_reducible refine Kd.C_alloc ?_ _) | (with_reducible refine Kd.C_drewN ?_ _) | (with_reducible refine Kd.C_drew ?_))); (case side2 => exact (Kd.R_reads' HO_546000.out).2.1); rintro e w143 ⟨rfl, hb⟩; have n0_ := Aside0.mk (Kd.R_below (qR HO_530000.out) hb); have n1_ := Aside0.mk (Kd.R_below (qR HO_538000.out) hb); have n2_ := Aside0.mk (Kd.R_below (qR HO_546000.out) hb); have n3_ := Aside0.mk (Kd.R_below (qR HO_552000.out) hb); have n4_ := Aside0.mk (blk_below (qB BK514.out) hb); have n5_ := Aside0.mk (blk_below (qB BK515.out) hb); have n6_ := Aside0.mk (blk_below (qB BK529.out) hb); have n7_ := Aside0.mk (blk_below (qB BK537.out) hb); have n8_ := Aside0.mk (blk_below (qB BK545.out) hb); have n9_ := Aside0.mk (blk_below (qB BK551.out) hb); have n10_ := Aside0.mk (below_step (qW HB.out) hb); clear HO_530000 HO_538000 HO_546000 HO_552000 BK514 BK515 BK529 BK537 BK545 BK551 HB; have HO_530000 := n0_; have HO_538000 := n1_; have HO_546000 := n2_; have HO_552000 := n3_; have BK514 := n4_; have BK515 := n5_; have BK529 := n6_; have BK537 := n7_; have BK545 := n8_; have BK551 := n9_; have HB := n10_; clear n0_ n1_ n2_ n3_ n4_ n5_ n6_ n7_ n8_ n9_ n10_; (try clear hb); (try clear hb2); (try clear hk); (try clear hi)) | (go_at_call 11; (with_reducible refine (standbylaw55_awake.calls k4  t560 _ A134.out).mono ?_); rintro e w144 ⟨rfl, hb⟩; have n0_ := Aside0.mk (Kd.R_below (qR HO_530000.out) hb); have n1_ := Aside0.mk (Kd.R_below (qR HO_538000.out) hb); have n2_ := Aside0.mk (Kd.R_below (qR HO_546000.out) hb); have n3_ := Aside0.mk (Kd.R_below (qR HO_552000.out) hb); have n4_ := Aside0.mk (blk_below (qB BK514.out) hb); have n5_ := Aside0.mk (blk_below (qB BK515.out) hb); have n6_ := Aside0.mk (blk_below (qB BK529.out) hb); have n7_ := Aside0.mk (blk_below (qB BK537.out) hb); have n8_ := Aside0.mk (blk_below (qB BK545.out) hb); have n9_ := Aside0.mk (blk_below (qB BK551.out) hb); have n10_ := Aside0.mk (below_step (qW HB.out) hb); clear HO_530000 HO_538000 HO_546000 HO_552000 BK514 BK515 BK529 BK537 BK545 BK551 HB; have HO_530000 := n0_; have HO_538000 := n1_; have HO_546000 := n2_; have HO_552000 := n3_; have BK514 := n4_; have BK515 := n5_; have BK529 := n6_; have BK537 := n7_; have BK545 := n8_; have BK551 := n9_; have HB := n10_; clear n0_ n1_ n2_ n3_ n4_ n5_ n6_ n7_ n8_ n9_ n10_; (try clear hb); (try clear hb2); (try clear hk); (try clear hi)))
             go_ret
             exact ⟨by first | rfl | (simp [errW_none, errW_some] <;> rfl) | (simp [*, errW_none, errW_some] <;> rfl), by repeat (first | (with_reducible first | exact HB.out | apply below_alloc | apply pw_below_drewN | apply below_drew1 | refine below_set ?_ GE514.out | refine below_set ?_ GE515.out | refine below_set ?_ GE529.out | refine below_set ?_ GE537.out | refine below_set ?_ GE545.out | refine below_set ?_ GE551.out) | exact HB.out)⟩
            rw [if_pos c123] at H
            have c123b0 : decide (x125_4 < (wrap64 ((wrap64 (a2)) + 1))) = true := decide_eq_true c123
            clear c123
            replace H := Option.bind_eq_some_iff.mp H
            obtain ⟨t556, A1240, H⟩ := H
            replace H : ((curve_At.f k4 l1_0 a1_1 (wrap64 ((wrap64 (a2)) - x125_4))).bind fun t557 => (standbylaw55_CurvePoints.l0 k4 (wrap64 (a2)) (mn x18_4 (wrap64 (t556 + t557))) (wrap64 ((wrap64 (a2)) + 1)) (wrap64 (x125_4 + 1)) l0_0 a0_1 l1_0 a1_1 t540 t543)) = some r := H
            have A124 := Aside0.mk A1240
            clear A1240
            replace H := Option.bind_eq_some_iff.mp H
            obtain ⟨t557, A1250, H⟩ := H
            replace H : (standbylaw55_CurvePoints.l0 k4 (wrap64 (a2)) (mn x18_4 (wrap64 (t556 + t557))) (wrap64 ((wrap64 (a2)) + 1)) (wrap64 (x125_4 + 1)) l0_0 a0_1 l1_0 a1_1 t540 t543) = some r := H
            have A125 := Aside0.mk A1250
            clear A1250
            obtain ⟨ji126, hji126⟩ : ∃ j_ : Int, (mn x18_4 (wrap64 (t556 + t557))) = j_ := ⟨_, rfl⟩
            replace H : (standbylaw55_CurvePoints.l0 k4 (wrap64 (a2)) ji126 (wrap64 ((wrap64 (a2)) + 1)) (wrap64 (x125_4 + 1)) l0_0 a0_1 l1_0 a1_1 t540 t543) = some r := by first | (rw [hji126] at H; exact H) | (simp only [hji126] at H ⊢; exact H)
            (try rw [hji126] at A124)
            (try rw [hji126] at A125)
            have hji126_ : (if (wrap64 (t556 + t557)) < x18_4 then (wrap64 (t556 + t557)) else x18_4) = ji126 := hji126
            have H' := Aside0.mk H
            clear H
            try go_wp2
            have n0_ := Aside0.mk (Kd.R_drew HO_530000.out)
            have n1_ := Aside0.mk (Kd.R_drew HO_538000.out)
            have n2_ := Aside0.mk (Kd.R_drew HO_546000.out)
            have n3_ := Aside0.mk (Kd.R_drew HO_552000.out)
            have n4_ := Aside0.mk (blk_drew BK514.out)
            have n5_ := Aside0.mk (blk_drew BK515.out)
            have n6_ := Aside0.mk (blk_drew BK529.out)
            have n7_ := Aside0.mk (blk_drew BK537.out)
            have n8_ := Aside0.mk (blk_drew BK545.out)
            have n9_ := Aside0.mk (blk_drew BK551.out)
            have n10_ := Aside0.mk (below_drew1 HB.out)
            clear HO_530000 HO_538000 HO_546000 HO_552000 BK514 BK515 BK529 BK537 BK545 BK551 HB
            have HO_530000 := n0_
            have HO_538000 := n1_
            have HO_546000 := n2_
            have HO_552000 := n3_
            have BK514 := n4_
            have BK515 := n5_
            have BK529 := n6_
            have BK537 := n7_
            have BK545 := n8_
            have BK551 := n9_
            have HB := n10_
            clear n0_ n1_ n2_ n3_ n4_ n5_ n6_ n7_ n8_ n9_ n10_
            refine start_ (n := 12) (S := fun w' => w'.cell? ⟨gb514, 0, none⟩ = some (.slice A0_0 l0_0.length c0_0) ∧ w'.cell? ⟨gb514, 1, none⟩ = some (.int .i64 a0_1) ∧ w'.cell? ⟨gb515, 0, none⟩ = some (.slice A1_0 l1_0.length c1_0) ∧ w'.cell? ⟨gb515, 1, none⟩ = some (.int .i64 a1_1)) (ds := []) #[false, false, false, false, false, false, false, false, false, false, false, false] (by kernel_rfl) rfl rfl ⟨(blk_cell BK514.out 0).trans rfl, (blk_cell BK514.out 1).trans rfl, (blk_cell BK515.out 0).trans rfl, (blk_cell BK515.out 1).trans rfl⟩ (fun hHeld => ?_); refine with_tabW standbylaw55_CurvePoints.tab21 standbylaw55_CurvePoints.bits21 (fun HT_ HW_ => ?_)
            generalize wr.drew = w127 at HO_530000 HO_538000 HO_546000 HO_552000 BK514 BK515 BK529 BK537 BK545 BK551 HB hHeld ⊢
            refine pS (i := 0) (N := some 128) #[true, false, false, false, false, false, false, false, false, false, false, false] rfl rfl HT_.out ?_
            refine pS (i := 2) (N := some 130) #[true, false, true, false, false, false, false, false, false, false, false, false] rfl rfl HT_.out ?_
            refine pS (i := 5) (N := some 133) #[true, false, true, false, false, true, false, false, false, false, false, false] rfl rfl HT_.out ?_
            refine pS (i := 6) (N := some 134) #[true, false, true, false, false, true, true, false, false, false, false, false] rfl rfl HT_.out ?_
            refine pS (i := 7) (N := some 135) #[true, false, true, false, false, true, true, true, false, false, false, false] rfl rfl HT_.out ?_
            refine take_ (i := 1) (N := some 129) (v := ?_) (a' := ?_) #[true, true, true, false, false, true, true, true, false, false, false, false] rfl rfl (take_ofW HT_.out HW_.out (by kernel_rfl)) (fun _ _ _ h => h) (Or.inl ⟨by rfl, ?_⟩) hHeld ?_ ?_; rotate_left
            ·rintro w' ⟨s0, s1, s2, s3⟩
             go_simp
             with_reducible rfl
            rotate_left
            ·simp only [Act.put, List.setIfInBounds_toArray, List.set_cons_zero, List.set_cons_succ, i64_w, i32_w]
             rfl
            refine take_ (i := 4) (N := some 132) (v := ?_) (a' := ?_) #[true, true, true, false, true, true, true, true, false, false, false, false] rfl rfl (take_ofW HT_.out HW_.out (by kernel_rfl)) (fun _ _ _ h => h) (Or.inl ⟨by rfl, ?_⟩) hHeld ?_ ?_; rotate_left
            ·rintro w' ⟨s0, s1, s2, s3⟩
             go_simp
             with_reducible rfl
            rotate_left
            ·simp only [Act.put, List.setIfInBounds_toArray, List.set_cons_zero, List.set_cons_succ, i64_w, i32_w]
             rfl
            refine one_ (i := 3) (N := some 131) #[true, true, true, true, true, true, true, true, false, false, false, false] rfl rfl (one_of HT_.out (by kernel_rfl)) (by decide) (fun K hK => ?_)
            refine goes_ Try.func18 (by kernel_rfl) rfl #[.agg #[.slice A0_0 l0_0.length c0_0, .int .i64 a0_1], .int .i64 x125_4] (by rfl) rfl rfl (by (try simp only [List.map_toArray, List.map_cons, List.map_nil]); first | done | rfl | (simp only [List.length_drop, List.length_take]; rfl)) ?_
            with_reducible refine (curve_At.calls k4 _ _ l0_0 a0_1 x125_4 t556 _ ?side1 ?side2 A124.out).mono ?_
            (case side1 => exact qC HR0_0.out HB.out)
            (case side2 => exact HC0_0.out)
            rintro e w128 ⟨rfl, hb⟩
            refine ⟨_, rfl, ?_⟩
            have n0_ := Aside0.mk (Kd.R_below (qR HO_530000.out) hb)
            have n1_ := Aside0.mk (Kd.R_below (qR HO_538000.out) hb)
            have n2_ := Aside0.mk (Kd.R_below (qR HO_546000.out) hb)
            have n3_ := Aside0.mk (Kd.R_below (qR HO_552000.out) hb)
            have n4_ := Aside0.mk (blk_below (qB BK514.out) hb)
            have n5_ := Aside0.mk (blk_below (qB BK515.out) hb)
            have n6_ := Aside0.mk (blk_below (qB BK529.out) hb)
            have n7_ := Aside0.mk (blk_below (qB BK537.out) hb)
            have n8_ := Aside0.mk (blk_below (qB BK545.out) hb)
            have n9_ := Aside0.mk (blk_below (qB BK551.out) hb)
            have n10_ := Aside0.mk (below_step (qW HB.out) hb)
            clear HO_530000 HO_538000 HO_546000 HO_552000 BK514 BK515 BK529 BK537 BK545 BK551 HB
            have HO_530000 := n0_
            have HO_538000 := n1_
            have HO_546000 := n2_
            have HO_552000 := n3_
            have BK514 := n4_
            have BK515 := n5_
            have BK529 := n6_
            have BK537 := n7_
            have BK545 := n8_
            have BK551 := n9_
            have HB := n10_
            clear n0_ n1_ n2_ n3_ n4_ n5_ n6_ n7_ n8_ n9_ n10_
            (try clear hb); (try clear hb2); (try clear hk); (try clear hi)
            refine hK.out _ _ ⟨(blk_cell BK514.out 0).trans rfl, (blk_cell BK514.out 1).trans rfl, (blk_cell BK515.out 0).trans rfl, (blk_cell BK515.out 1).trans rfl⟩ (fun hHeld => ?_); clear hK K
            refine norm_ (a' := ?_) ?_ ?_; rotate_left
            ·show Act.put _ (some 131) _ = _
             simp only [Act.put, List.setIfInBounds_toArray, List.set_cons_zero, List.set_cons_succ, i64_w, i32_w]
             rfl
            refine one_ (i := 8) (N := some 136) #[true, true, true, true, true, true, true, true, true, false, false, false] rfl rfl (one_of HT_.out (by kernel_rfl)) (by decide) (fun K hK => ?_)
            refine goes_ Try.func18 (by kernel_rfl) rfl #[.agg #[.slice A1_0 l1_0.length c1_0, .int .i64 a1_1], .int .i64 (wrap64 ((wrap64 (a2)) - x125_4))] (by rfl) rfl rfl (by (try simp only [List.map_toArray, List.map_cons, List.map_nil]); first | done | rfl | (simp only [List.length_drop, List.length_take]; rfl)) ?_
            with_reducible refine (curve_At.calls k4 _ _ l1_0 a1_1 (wrap64 ((wrap64 (a2)) - x125_4)) t557 _ ?side1 ?side2 A125.out).mono ?_
            (case side1 => exact qC HR1_0.out HB.out)
            (case side2 => exact HC1_0.out)
            rintro e w129 ⟨rfl, hb⟩
            refine ⟨_, rfl, ?_⟩
            have n0_ := Aside0.mk (Kd.R_below (qR HO_530000.out) hb)
            have n1_ := Aside0.mk (Kd.R_below (qR HO_538000.out) hb)
            have n2_ := Aside0.mk (Kd.R_below (qR HO_546000.out) hb)
            have n3_ := Aside0.mk (Kd.R_below (qR HO_552000.out) hb)
            have n4_ := Aside0.mk (blk_below (qB BK514.out) hb)
            have n5_ := Aside0.mk (blk_below (qB BK515.out) hb)
            have n6_ := Aside0.mk (blk_below (qB BK529.out) hb)
            have n7_ := Aside0.mk (blk_below (qB BK537.out) hb)
            have n8_ := Aside0.mk (blk_below (qB BK545.out) hb)
            have n9_ := Aside0.mk (blk_below (qB BK551.out) hb)
            have n10_ := Aside0.mk (below_step (qW HB.out) hb)
            clear HO_530000 HO_538000 HO_546000 HO_552000 BK514 BK515 BK529 BK537 BK545 BK551 HB
            have HO_530000 := n0_
            have HO_538000 := n1_
            have HO_546000 := n2_
            have HO_552000 := n3_
            have BK514 := n4_
            have BK515 := n5_
            have BK529 := n6_
            have BK537 := n7_
            have BK545 := n8_
            have BK551 := n9_
            have HB := n10_
            clear n0_ n1_ n2_ n3_ n4_ n5_ n6_ n7_ n8_ n9_ n10_
            (try clear hb); (try clear hb2); (try clear hk); (try clear hi)
            refine hK.out _ _ ⟨(blk_cell BK514.out 0).trans rfl, (blk_cell BK514.out 1).trans rfl, (blk_cell BK515.out 0).trans rfl, (blk_cell BK515.out 1).trans rfl⟩ (fun hHeld => ?_); clear hK K
            refine norm_ (a' := ?_) ?_ ?_; rotate_left
            ·show Act.put _ (some 136) _ = _
             simp only [Act.put, List.setIfInBounds_toArray, List.set_cons_zero, List.set_cons_succ, i64_w, i32_w]
             rfl
            refine pS (i := 9) (N := some 137) #[true, true, true, true, true, true, true, true, true, true, false, false] rfl rfl HT_.out ?_
            refine pS (i := 10) (N := some 138) #[true, true, true, true, true, true, true, true, true, true, true, false] rfl rfl HT_.out ?_
            refine pS (i := 11) (N := some 18) #[true, true, true, true, true, true, true, true, true, true, true, true] rfl rfl HT_.out ?_
            refine done_ (done_of HT_.out (by kernel_rfl)) ?_
            try go_wp2
            go_roundg k4
            case measure => have := HJ3.out; have := HJ32.out; have := HJ58.out; have := HK4.out; omega
            case rel => exact ⟨(ji126), (wrap64 (x125_4 + 1)), (by first | rfl | (simp; done) | (simp only [← hji126] <;> (first | rfl | simp)) | (simp [*]; done)), (by first | rfl | (simp; done) | (simp [*]; done)), H', ⟨by have := HJ3.out; have := HJ32.out; have := HJ58.out; have := HK4.out; omega⟩, ⟨by exact qR HO_530000.out⟩, ⟨by exact qR HO_538000.out⟩, ⟨by exact qR HO_546000.out⟩, ⟨by exact qR HO_552000.out⟩, ⟨by exact qB BK514.out⟩, ⟨by exact qB BK515.out⟩, ⟨by exact qB BK529.out⟩, ⟨by exact qB BK537.out⟩, ⟨by exact qB BK545.out⟩, ⟨by exact qB BK551.out⟩, ⟨by repeat (first | (with_reducible first | exact HB.out | apply below_alloc | apply pw_below_drewN | apply below_drew1 | refine below_set ?_ GE514.out | refine below_set ?_ GE515.out | refine below_set ?_ GE529.out | refine below_set ?_ GE537.out | refine below_set ?_ GE545.out | refine below_set ?_ GE551.out) | exact HB.out)⟩⟩
end Go.Proofs.Ytanlonngekgibaa.Pr

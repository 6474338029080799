-- Written by pp.py, a program of this session, over the translation of the given program; a machine's text: Lean checks it.
import Derived.Test.YtcflacjidabppaaGShort
import Derived.Test.YtcflacjidabppaaF15
import Derived.Test.YtcflacjidabppaaF40
import Derived.Test.YtcflacjidabppaaGBestW
namespace Go.Proofs.Ytcflacjidabppaa.Pr
open Go.RowKit Go.Proofs.YtcflacjidabppaaW.PrintWords Go.Proofs.YtcflacjidabppaaW.PrintLast Go.Proofs.YtcflacjidabppaaW.PrintMore
attribute [local go_sem] max2_int min2_int max_two min_two max_three min_three max_four min_four   -- for this text's walks alone
set_option linter.unusedVariables false
set_option linter.unusedSimpArgs false

/-! ### planner_Best: function 31 -/
mutual
def planner_Best.l0 : Nat → Int → Int → Int → List Int → List Int → Int → Int → Int → List Int → Int → List Int → List Int → List Int → List Int → Int → Option (Int × List Int × List Int × List Int × List Int × Int × Int)
 | 0, _, _, _, _, _, _, _, _, _, _, _, _, _, _, _ => none
 | k + 1, x9, x29, x30, cV, cW, eD, cX, cY, cZ, dA, dL, dM, dN, dO, dB => if x30 < x29 then ((PLANV.f k cV cW (wrap64 (x30 + 1)) cX cY cZ dA).bind fun bT => (if bT.2.2.2.2.2 = 0 then (if x9 = 0 then (planner_Best.j1 k x9 x30 x29 x30 true cV cW (wrap64 (x30 + 1)) cX cY cZ dA dL dM dN dO dB bT.1 bT.2.1 bT.2.2.1 bT.2.2.2.1 bT.2.2.2.2.1) else (planner_Best.j1 k x9 x30 x29 x30 (decide (bT.2.2.2.2.1 < dB)) cV cW (wrap64 (x30 + 1)) cX cY cZ dA dL dM dN dO dB bT.1 bT.2.1 bT.2.2.1 bT.2.2.2.1 bT.2.2.2.2.1)) else (planner_Best.j1 k x9 x30 x29 x30 false cV cW (wrap64 (x30 + 1)) cX cY cZ dA dL dM dN dO dB bT.1 bT.2.1 bT.2.2.1 bT.2.2.2.1 bT.2.2.2.2.1))) else (if x9 = 0 then (some (0, ([] : List Int), ([] : List Int), ([] : List Int), ([] : List Int), 0, 21)) else (some (x9, dL, dM, dN, dO, dB, 0)))
def planner_Best.j1 : Nat → Int → Int → Int → Int → Bool → List Int → List Int → Int → Int → Int → List Int → Int → List Int → List Int → List Int → List Int → Int → List Int → List Int → List Int → List Int → Int → Option (Int × List Int × List Int × List Int × List Int × Int × Int)
 | 0, _, _, _, _, _, _, _, _, _, _, _, _, _, _, _, _, _, _, _, _, _, _ => none
 | k + 1, x9, x11, x29, x30, x54, cV, cW, eD, cX, cY, cZ, dA, dL, dM, dN, dO, dB, gH, gI, gJ, gK, gL => if x54 = true then (planner_Best.l0 k (wrap64 (x11 + 1)) x29 (wrap64 (x30 + 1)) cV cW eD cX cY cZ dA gH gI gJ gK gL) else (planner_Best.l0 k x9 x29 (wrap64 (x30 + 1)) cV cW eD cX cY cZ dA dL dM dN dO dB)
end
def planner_Best.f (k : Nat) (aS : List Int) (aN : List Int) (cC : Int) (aT : Int) (aU : Int) (a1 : Int) : Option (Int × List Int × List Int × List Int × List Int × Int × Int) := (planner_between.f a1 1 4096).bind fun t472 => (if t472 = true then ((planner_Check.f k aS aN 1 aT aU).bind fun t473 => (if t473 = 0 then ((NEWCV.f aN).bind fun cB => (planner_Best.l0 k 0 a1 0 aS aN 1 aT aU cB.1 cB.2 ([] : List Int) ([] : List Int) ([] : List Int) ([] : List Int) 0)) else (some (0, ([] : List Int), ([] : List Int), ([] : List Int), ([] : List Int), 0, t473)))) else (some (0, ([] : List Int), ([] : List Int), ([] : List Int), ([] : List Int), 0, 2)))
theorem planner_Best.mono_l : ∀ k, (∀ y0 y1 y2 y3 y4 y5 y6 y7 y8 y9 y10 y11 y12 y13 y14, LeO (planner_Best.l0 k y0 y1 y2 y3 y4 y5 y6 y7 y8 y9 y10 y11 y12 y13 y14) (planner_Best.l0 (k + 1) y0 y1 y2 y3 y4 y5 y6 y7 y8 y9 y10 y11 y12 y13 y14)) ∧ (∀ y0 y1 y2 y3 y4 y5 y6 y7 y8 y9 y10 y11 y12 y13 y14 y15 y16 y17 y18 y19 y20 y21, LeO (planner_Best.j1 k y0 y1 y2 y3 y4 y5 y6 y7 y8 y9 y10 y11 y12 y13 y14 y15 y16 y17 y18 y19 y20 y21) (planner_Best.j1 (k + 1) y0 y1 y2 y3 y4 y5 y6 y7 y8 y9 y10 y11 y12 y13 y14 y15 y16 y17 y18 y19 y20 y21))
 | 0 => ⟨fun _ _ _ _ _ _ _ _ _ _ _ _ _ _ _ r h => by simp [planner_Best.l0] at h, fun _ _ _ _ _ _ _ _ _ _ _ _ _ _ _ _ _ _ _ _ _ _ r h => by simp [planner_Best.j1] at h⟩
 | k + 1 => by
  obtain ⟨ih0, ih1⟩ := planner_Best.mono_l k
  refine ⟨?_, ?_⟩
  ·intro y0 y1 y2 y3 y4 y5 y6 y7 y8 y9 y10 y11 y12 y13 y14
   unfold planner_Best.l0
   repeat' first
   | (with_reducible exact ih0 _ _ _ _ _ _ _ _ _ _ _ _ _ _ _)
   | (with_reducible exact ih1 _ _ _ _ _ _ _ _ _ _ _ _ _ _ _ _ _ _ _ _ _ _)
   | (with_reducible exact PLANV.mono _ _ _ _ _ _ _ _)
   | (with_reducible exact planner_Check.mono _ _ _ _ _ _)
   | (with_reducible exact LeO.refl _)
   | (with_reducible exact LeO.none _)
   | (with_reducible refine LeO.ite ?_ ?_)
   | (with_reducible refine LeO.bind ?_ (fun _ => ?_))
   | exact ih0 _ _ _ _ _ _ _ _ _ _ _ _ _ _ _
   | exact ih1 _ _ _ _ _ _ _ _ _ _ _ _ _ _ _ _ _ _ _ _ _ _
   | exact PLANV.mono _ _ _ _ _ _ _ _
   | exact planner_Check.mono _ _ _ _ _ _
   | exact LeO.none _
   | refine LeO.ite ?_ ?_
   | refine LeO.bind ?_ (fun _ => ?_)
  ·intro y0 y1 y2 y3 y4 y5 y6 y7 y8 y9 y10 y11 y12 y13 y14 y15 y16 y17 y18 y19 y20 y21
   unfold planner_Best.j1
   repeat' first
   | (with_reducible exact ih0 _ _ _ _ _ _ _ _ _ _ _ _ _ _ _)
   | (with_reducible exact ih1 _ _ _ _ _ _ _ _ _ _ _ _ _ _ _ _ _ _ _ _ _ _)
   | (with_reducible exact PLANV.mono _ _ _ _ _ _ _ _)
   | (with_reducible exact planner_Check.mono _ _ _ _ _ _)
   | (with_reducible exact LeO.refl _)
   | (with_reducible exact LeO.none _)
   | (with_reducible refine LeO.ite ?_ ?_)
   | (with_reducible refine LeO.bind ?_ (fun _ => ?_))
   | exact ih0 _ _ _ _ _ _ _ _ _ _ _ _ _ _ _
   | exact ih1 _ _ _ _ _ _ _ _ _ _ _ _ _ _ _ _ _ _ _ _ _ _
   | exact PLANV.mono _ _ _ _ _ _ _ _
   | exact planner_Check.mono _ _ _ _ _ _
   | exact LeO.none _
   | refine LeO.ite ?_ ?_
   | refine LeO.bind ?_ (fun _ => ?_)
theorem planner_Best.mono : ∀ a0 a1 a2 a3 a4 a5 k, LeO (planner_Best.f k a0 a1 a2 a3 a4 a5) (planner_Best.f (k + 1) a0 a1 a2 a3 a4 a5) := by
 intro a0 a1 a2 a3 a4 a5 k
 obtain ⟨ih0, ih1⟩ := planner_Best.mono_l k
 unfold planner_Best.f
 repeat' first
   | (with_reducible exact ih0 _ _ _ _ _ _ _ _ _ _ _ _ _ _ _)
   | (with_reducible exact ih1 _ _ _ _ _ _ _ _ _ _ _ _ _ _ _ _ _ _ _ _ _ _)
   | (with_reducible exact PLANV.mono _ _ _ _ _ _ _ _)
   | (with_reducible exact planner_Check.mono _ _ _ _ _ _)
   | (with_reducible exact LeO.refl _)
   | (with_reducible exact LeO.none _)
   | (with_reducible refine LeO.ite ?_ ?_)
   | (with_reducible refine LeO.bind ?_ (fun _ => ?_))
   | exact ih0 _ _ _ _ _ _ _ _ _ _ _ _ _ _ _
   | exact ih1 _ _ _ _ _ _ _ _ _ _ _ _ _ _ _ _ _ _ _ _ _ _
   | exact PLANV.mono _ _ _ _ _ _ _ _
   | exact planner_Check.mono _ _ _ _ _ _
   | exact LeO.none _
   | refine LeO.ite ?_ ?_
   | refine LeO.bind ?_ (fun _ => ?_)
set_option maxHeartbeats 8000000 in
set_option maxRecDepth 100000 in
theorem planner_Best.calls (k : Nat) (bH : Option Addr) (bI : Nat) (aS : List Int) (bJ : Option Addr) (bK : Nat) (aN : List Int) (cC : Int) (aT : Int) (aU : Int) (a1 : Int) (r1 : Int) (r2 : List Int) (r3 : List Int) (r4 : List Int) (r5 : List Int) (r6 : Int) (r7 : Int) (w : World) (eL : Kd.C (Kd.int .i64) w bH aS.length aS) (eM : aS.length ≤ bI) (eN : Kd.C (Kd.int .i64) w bJ aN.length aN) (eO : aN.length ≤ bK) (h : planner_Best.f k aS aN cC aT aU a1 = some (r1, r2, r3, r4, r5, r6, r7)) :
  Calls Try.prog 31 #[.agg #[.slice bH aS.length bI, .slice bJ aN.length bK, .int .i64 cC, .int .i64 aT, .int .i64 aU], .int .i64 a1] w fun e w' => ∃ v1_ v2_ v3_ v4_ : Value, e = .returned (.tuple #[.int .i64 r1, .agg #[v1_, v2_, v3_, v4_, .int .i64 r6], .int .i64 r7]) ∧ Kd.R (Kd.int .i64) 3 w' w.heap.size (fun k_ => some k_ ≠ (v2_ : Value).ownBlock ∧ some k_ ≠ (v3_ : Value).ownBlock ∧ some k_ ≠ (v4_ : Value).ownBlock) v1_ r2 ∧ Kd.R (Kd.int .i64) 3 w' w.heap.size (fun k_ => some k_ ≠ (v1_ : Value).ownBlock ∧ some k_ ≠ (v3_ : Value).ownBlock ∧ some k_ ≠ (v4_ : Value).ownBlock) v2_ r3 ∧ Kd.R (Kd.int .i64) 3 w' w.heap.size (fun k_ => some k_ ≠ (v1_ : Value).ownBlock ∧ some k_ ≠ (v2_ : Value).ownBlock ∧ some k_ ≠ (v4_ : Value).ownBlock) v3_ r4 ∧ Kd.R (Kd.int .i64) 3 w' w.heap.size (fun k_ => some k_ ≠ (v1_ : Value).ownBlock ∧ some k_ ≠ (v2_ : Value).ownBlock ∧ some k_ ≠ (v3_ : Value).ownBlock) v4_ r5 ∧ Below w.heap.size w w' := by
 have hu24 := Try.underlying24
 have hu28 := Try.underlying28
 have hu91 := Try.underlying91
 have eE := Aside0.mk eL
 have eF := Aside0.mk eM
 clear eL eM
 have dX := Aside0.mk eN
 have dY := Aside0.mk eO
 clear eN eO
 have HB := Aside0.mk (Below.refl w.heap.size w)
 have H : ((planner_between.f a1 1 4096).bind fun t472 => (if t472 = true then ((planner_Check.f k aS aN 1 aT aU).bind fun t473 => (if t473 = 0 then ((NEWCV.f aN).bind fun cB => (planner_Best.l0 k 0 a1 0 aS aN 1 aT aU cB.1 cB.2 ([] : List Int) ([] : List Int) ([] : List Int) ([] : List Int) 0)) else (some (0, ([] : List Int), ([] : List Int), ([] : List Int), ([] : List Int), 0, t473)))) else (some (0, ([] : List Int), ([] : List Int), ([] : List Int), ([] : List Int), 0, 2)))) = some (r1, r2, r3, r4, r5, r6, r7) := h
 clear h
 replace H := Option.bind_eq_some_iff.mp H
 obtain ⟨t472, A30, H⟩ := H
 replace H : (if t472 = true then ((planner_Check.f k aS aN 1 aT aU).bind fun t473 => (if t473 = 0 then ((NEWCV.f aN).bind fun cB => (planner_Best.l0 k 0 a1 0 aS aN 1 aT aU cB.1 cB.2 ([] : List Int) ([] : List Int) ([] : List Int) ([] : List Int) 0)) else (some (0, ([] : List Int), ([] : List Int), ([] : List Int), ([] : List Int), 0, t473)))) else (some (0, ([] : List Int), ([] : List Int), ([] : List Int), ([] : List Int), 0, 2))) = some (r1, r2, r3, r4, r5, r6, r7) := H
 have A3 := Aside0.mk A30
 clear A30
 by_cases c4 : t472 = true
 case neg =>
  replace c4 := Bool.eq_false_iff.mpr c4
  subst c4
  have H1 : (some (0, ([] : List Int), ([] : List Int), ([] : List Int), ([] : List Int), 0, 2)) = some (r1, r2, r3, r4, r5, r6, r7) := by rw [if_neg (show ¬ (false = true) by decide)] at H; exact H
  clear H
  have H := H1
  clear H1
  simp only [Option.some.injEq, Prod.mk.injEq] at H
  obtain ⟨rfl, rfl, rfl, rfl, rfl, rfl, rfl⟩ := H
  go_enter Try.func31, Try.ntmps31
  go_wp2_with (first | ((with_reducible refine gate_dst (N := 2) rfl ?_); refine box_event ?hg (N := 2) ?hd (cs := #[.slice bH aS.length bI, .slice bJ aN.length bK, .int .i64 cC, .int .i64 aT, .int .i64 aU]) (t := 24) ?hr ?_; (case hd => rfl); (case hg => rfl); (case hr => first | (go_simp; done) | (go_simp; rfl)); intro aF hg w78 hbox hb; have n0_ := Aside0.mk (below_step (qW HB.out) hb); have n1_ := Aside0.mk (hbox); have n2_ := Aside0.mk ((by rw [hg]; exact (below_size (qW HB.out)) : w.heap.size ≤ aF)); have n3_ := Aside0.mk ((by rw [hg]; exact (below_size (qW HB.out)) : w.heap.size ≤ aF)); clear HB; have HB := n0_; have aB := n1_; have eP := n2_; have cD := n3_; clear n0_ n1_ n2_ n3_ hb hbox hg) | ((with_reducible refine gate_dst (N := 5) rfl ?_); refine box_event ?hg (N := 5) ?hd (cs := #[.slice none 0 0, .slice none 0 0, .slice none 0 0, .slice none 0 0, .int .i64 0]) (t := 28) ?hr ?_; (case hd => rfl); (case hg => rfl); (case hr => first | (go_simp; done) | (go_simp; rfl)); intro aD hg w79 hbox hb; have n0_ := Aside0.mk (blk_below (qB aB.out) hb); have n1_ := Aside0.mk (below_step (qW HB.out) hb); have n2_ := Aside0.mk (hbox); have n3_ := Aside0.mk ((by rw [hg]; exact (below_size (qW HB.out)) : w.heap.size ≤ aD)); have n4_ := Aside0.mk ((by rw [hg]; exact (below_size (qW HB.out)) : w.heap.size ≤ aD)); have n5_ := Aside0.mk ((by rw [hg]; exact Nat.ne_of_lt (blk_lt (qB aB.out)) : aF ≠ aD)); have n6_ := Aside0.mk ((by rw [hg]; exact Nat.ne_of_gt (blk_lt (qB aB.out)) : aD ≠ aF)); clear aB HB; have aB := n0_; have HB := n1_; have aC := n2_; have eQ := n3_; have cE := n4_; have cF := n5_; have bZ := n6_; clear n0_ n1_ n2_ n3_ n4_ n5_ n6_ hb hbox hg) | ((with_reducible refine gate_callee (f := 40) rfl ?_); refine goesL_ (some 15) rfl rfl Try.func40 (by kernel_rfl) rfl #[.int .i64 a1, .int .i64 1, .int .i64 4096] rfl (by (try simp only [List.map_toArray, List.map_cons, List.map_nil]); first | done | rfl | (simp only [List.length_drop, List.length_take]; rfl)) ?_; (with_reducible refine (planner_between.calls a1 1 4096 false _ A3.out).mono ?_); rintro e w' ⟨rfl, ⟨nd, rfl⟩⟩; refine ⟨_, rfl, ?_⟩; (try (rw [drewN_self w79]; generalize hq_ : World.drewN w79 _ = w79; have n0_ : Aside0 (w79.heap[aF]? = some (.cells #[.slice bH aS.length bI, .slice bJ aN.length bK, .int .i64 cC, .int .i64 aT, .int .i64 aU] 24 (0, 0))) := ⟨by rw [← hq_]; exact (qB aB.out)⟩; have n1_ : Aside0 (w79.heap[aD]? = some (.cells #[.slice none 0 0, .slice none 0 0, .slice none 0 0, .slice none 0 0, .int .i64 0] 28 (0, 0))) := ⟨by rw [← hq_]; exact (qB aC.out)⟩; have n2_ : Aside0 (Below w.heap.size w w79) := ⟨by rw [← hq_]; exact (qW HB.out)⟩; clear aB aC HB hq_; have aB := n0_; have aC := n1_; have HB := n2_; clear n0_ n1_ n2_)); have iM := bZ.out; have iN := cF.out; have iO : w79.cell? ⟨aD, 0, none⟩ = some (.slice none 0 0) := (blk_cell aC.out 0).trans rfl; have iP : w79.cell? ⟨aD, 1, none⟩ = some (.slice none 0 0) := (blk_cell aC.out 1).trans rfl; have iQ : w79.cell? ⟨aD, 2, none⟩ = some (.slice none 0 0) := (blk_cell aC.out 2).trans rfl; have iR : w79.cell? ⟨aD, 3, none⟩ = some (.slice none 0 0) := (blk_cell aC.out 3).trans rfl; have iS : w79.cell? ⟨aD, 4, none⟩ = some (.int .i64 0) := (blk_cell aC.out 4).trans rfl; have iT := blk_frozen aC.out 0; have iU := blk_frozen aC.out 1; have iV := blk_frozen aC.out 2; have iW := blk_frozen aC.out 3; have iX := blk_frozen aC.out 4))
  refine bodyPost_ret (results_list (rs := [.tmp 4, .cell 5 28, .tmp 6]) rfl (by simp) (.tmp (.cell aD 28 #[.slice none 0 0, .slice none 0 0, .slice none 0 0, .slice none 0 0, .int .i64 0] (0, 0) _ rfl (by (with_reducible repeat (first | refine blk_drewN ?_ _ | refine blk_drew ?_ | refine blk_alloc ?_ _)); refine blk_put (cs := #[.slice none 0 0, .slice none 0 0, .slice none 0 0, .slice none 0 0, .int .i64 0]) ?_ 4 _ rfl; (with_reducible repeat (first | refine blk_drewN ?_ _ | refine blk_drew ?_ | refine blk_alloc ?_ _)); refine blk_put (cs := #[.slice none 0 0, .slice none 0 0, .slice none 0 0, .slice none 0 0, .int .i64 0]) ?_ 3 _ rfl; (with_reducible repeat (first | refine blk_drewN ?_ _ | refine blk_drew ?_ | refine blk_alloc ?_ _)); refine blk_put (cs := #[.slice none 0 0, .slice none 0 0, .slice none 0 0, .slice none 0 0, .int .i64 0]) ?_ 2 _ rfl; (with_reducible repeat (first | refine blk_drewN ?_ _ | refine blk_drew ?_ | refine blk_alloc ?_ _)); refine blk_put (cs := #[.slice none 0 0, .slice none 0 0, .slice none 0 0, .slice none 0 0, .int .i64 0]) ?_ 1 _ rfl; (with_reducible repeat (first | refine blk_drewN ?_ _ | refine blk_drew ?_ | refine blk_alloc ?_ _)); refine blk_put (cs := #[.slice none 0 0, .slice none 0 0, .slice none 0 0, .slice none 0 0, .int .i64 0]) ?_ 0 _ rfl; exact qB aC.out) Try.underlying28 rfl (by kernel_rfl) (.tmp .nil)))) rfl ?_
  exact ⟨_, _, _, _, by first | rfl | (simp [errW_none, errW_some] <;> rfl) | (simp [*, errW_none, errW_some] <;> rfl), by first | exact Kd.R_nil _ _ _ _ _ | exact Kd.N_nil _ _ _ _ _ | exact Kd.V_nil _ _ _ _ _ | exact Kd.Q_nil _ _ _ _ _ | exact Kd.S_nil _ _ _ _ _, by first | exact Kd.R_nil _ _ _ _ _ | exact Kd.N_nil _ _ _ _ _ | exact Kd.V_nil _ _ _ _ _ | exact Kd.Q_nil _ _ _ _ _ | exact Kd.S_nil _ _ _ _ _, by first | exact Kd.R_nil _ _ _ _ _ | exact Kd.N_nil _ _ _ _ _ | exact Kd.V_nil _ _ _ _ _ | exact Kd.Q_nil _ _ _ _ _ | exact Kd.S_nil _ _ _ _ _, by first | exact Kd.R_nil _ _ _ _ _ | exact Kd.N_nil _ _ _ _ _ | exact Kd.V_nil _ _ _ _ _ | exact Kd.Q_nil _ _ _ _ _ | exact Kd.S_nil _ _ _ _ _, by repeat (first | (with_reducible first | exact HB.out | apply below_alloc | apply pw_below_drewN | apply below_drew1 | refine below_set ?_ cD.out | refine below_set ?_ cE.out) | exact HB.out)⟩

 subst c4
 have H1 : ((planner_Check.f k aS aN 1 aT aU).bind fun t473 => (if t473 = 0 then ((NEWCV.f aN).bind fun cB => (planner_Best.l0 k 0 a1 0 aS aN 1 aT aU cB.1 cB.2 ([] : List Int) ([] : List Int) ([] : List Int) ([] : List Int) 0)) else (some (0, ([] : List Int), ([] : List Int), ([] : List Int), ([] : List Int), 0, t473)))) = some (r1, r2, r3, r4, r5, r6, r7) := by rw [if_pos rfl] at H; exact H
 clear H
 have H := H1
 clear H1
 replace H := Option.bind_eq_some_iff.mp H
 obtain ⟨t473, A50, H⟩ := H
 replace H : (if t473 = 0 then ((NEWCV.f aN).bind fun cB => (planner_Best.l0 k 0 a1 0 aS aN 1 aT aU cB.1 cB.2 ([] : List Int) ([] : List Int) ([] : List Int) ([] : List Int) 0)) else (some (0, ([] : List Int), ([] : List Int), ([] : List Int), ([] : List Int), 0, t473))) = some (r1, r2, r3, r4, r5, r6, r7) := H
 have A5 := Aside0.mk A50
 clear A50
 by_cases c6 : t473 = 0
 case neg =>
  rw [if_neg c6] at H
  have eG : (t473 == 0) = false := beq_eq_false_iff_ne.mpr c6
  have eH : (t473 != 0) = true := bne_iff_ne.mpr c6
  simp only [Option.some.injEq, Prod.mk.injEq] at H
  obtain ⟨rfl, rfl, rfl, rfl, rfl, rfl, rfl⟩ := H
  go_enter Try.func31, Try.ntmps31
  go_wp2_with (first | ((with_reducible refine gate_dst (N := 2) rfl ?_); refine box_event ?hg (N := 2) ?hd (cs := #[.slice bH aS.length bI, .slice bJ aN.length bK, .int .i64 cC, .int .i64 aT, .int .i64 aU]) (t := 24) ?hr ?_; (case hd => rfl); (case hg => rfl); (case hr => first | (go_simp; done) | (go_simp; rfl)); intro aF hg w72 hbox hb; have n0_ := Aside0.mk (below_step (qW HB.out) hb); have n1_ := Aside0.mk (hbox); have n2_ := Aside0.mk ((by rw [hg]; exact (below_size (qW HB.out)) : w.heap.size ≤ aF)); have n3_ := Aside0.mk ((by rw [hg]; exact (below_size (qW HB.out)) : w.heap.size ≤ aF)); clear HB; have HB := n0_; have aB := n1_; have eP := n2_; have cD := n3_; clear n0_ n1_ n2_ n3_ hb hbox hg) | ((with_reducible refine gate_dst (N := 5) rfl ?_); refine box_event ?hg (N := 5) ?hd (cs := #[.slice none 0 0, .slice none 0 0, .slice none 0 0, .slice none 0 0, .int .i64 0]) (t := 28) ?hr ?_; (case hd => rfl); (case hg => rfl); (case hr => first | (go_simp; done) | (go_simp; rfl)); intro aD hg w73 hbox hb; have n0_ := Aside0.mk (blk_below (qB aB.out) hb); have n1_ := Aside0.mk (below_step (qW HB.out) hb); have n2_ := Aside0.mk (hbox); have n3_ := Aside0.mk ((by rw [hg]; exact (below_size (qW HB.out)) : w.heap.size ≤ aD)); have n4_ := Aside0.mk ((by rw [hg]; exact (below_size (qW HB.out)) : w.heap.size ≤ aD)); have n5_ := Aside0.mk ((by rw [hg]; exact Nat.ne_of_lt (blk_lt (qB aB.out)) : aF ≠ aD)); have n6_ := Aside0.mk ((by rw [hg]; exact Nat.ne_of_gt (blk_lt (qB aB.out)) : aD ≠ aF)); clear aB HB; have aB := n0_; have HB := n1_; have aC := n2_; have eQ := n3_; have cE := n4_; have cF := n5_; have bZ := n6_; clear n0_ n1_ n2_ n3_ n4_ n5_ n6_ hb hbox hg) | ((with_reducible refine gate_callee (f := 40) rfl ?_); refine goesL_ (some 15) rfl rfl Try.func40 (by kernel_rfl) rfl #[.int .i64 a1, .int .i64 1, .int .i64 4096] rfl (by (try simp only [List.map_toArray, List.map_cons, List.map_nil]); first | done | rfl | (simp only [List.length_drop, List.length_take]; rfl)) ?_; (with_reducible refine (planner_between.calls a1 1 4096 true _ A3.out).mono ?_); rintro e w' ⟨rfl, ⟨nd, rfl⟩⟩; refine ⟨_, rfl, ?_⟩; (try (rw [drewN_self w73]; generalize hq_ : World.drewN w73 _ = w73; have n0_ : Aside0 (w73.heap[aF]? = some (.cells #[.slice bH aS.length bI, .slice bJ aN.length bK, .int .i64 cC, .int .i64 aT, .int .i64 aU] 24 (0, 0))) := ⟨by rw [← hq_]; exact (qB aB.out)⟩; have n1_ : Aside0 (w73.heap[aD]? = some (.cells #[.slice none 0 0, .slice none 0 0, .slice none 0 0, .slice none 0 0, .int .i64 0] 28 (0, 0))) := ⟨by rw [← hq_]; exact (qB aC.out)⟩; have n2_ : Aside0 (Below w.heap.size w w73) := ⟨by rw [← hq_]; exact (qW HB.out)⟩; clear aB aC HB hq_; have aB := n0_; have aC := n1_; have HB := n2_; clear n0_ n1_ n2_)); have iY := cF.out; have iZ := bZ.out; have jA : w73.cell? ⟨aF, 0, none⟩ = some (.slice bH aS.length bI) := (blk_cell aB.out 0).trans rfl; have jB : w73.cell? ⟨aF, 1, none⟩ = some (.slice bJ aN.length bK) := (blk_cell aB.out 1).trans rfl; have jC : w73.cell? ⟨aF, 2, none⟩ = some (.int .i64 cC) := (blk_cell aB.out 2).trans rfl; have jD : w73.cell? ⟨aF, 3, none⟩ = some (.int .i64 aT) := (blk_cell aB.out 3).trans rfl; have jE : w73.cell? ⟨aF, 4, none⟩ = some (.int .i64 aU) := (blk_cell aB.out 4).trans rfl; have jF := blk_frozen aB.out 0; have jG := blk_frozen aB.out 1; have jH := blk_frozen aB.out 2; have jI := blk_frozen aB.out 3; have jJ := blk_frozen aB.out 4) | ((with_reducible refine gate_callee (f := 15) rfl ?_); refine goesL_ (some 20) rfl rfl Try.func15 (by kernel_rfl) rfl #[.agg #[.slice bH aS.length bI, .slice bJ aN.length bK, .int .i64 1, .int .i64 aT, .int .i64 aU]] rfl (by (try simp only [List.map_toArray, List.map_cons, List.map_nil]); first | done | rfl | (simp only [List.length_drop, List.length_take]; rfl)) ?_; (with_reducible refine (planner_Check.calls k _ _ aS _ _ aN 1 aT aU t473 _ ?side1 ?side2 ?side3 ?side4 A5.out).mono ?_); (case side1 => exact Kd.C_below eE.out (qW HB.out)); (case side2 => exact eF.out); (case side3 => exact Kd.C_below dX.out (qW HB.out)); (case side4 => exact dY.out); rintro e w76 ⟨rfl, hb⟩; refine ⟨_, rfl, ?_⟩; have n0_ := Aside0.mk (blk_below (g := aF) (o := .cells #[.slice bH aS.length bI, .slice bJ aN.length bK, .int .i64 1, .int .i64 aT, .int .i64 aU] 24 (0, 0)) (by (with_reducible repeat (first | refine blk_drewN ?_ _ | refine blk_drew ?_ | refine blk_alloc ?_ _)); refine blk_put (cs := #[.slice bH aS.length bI, .slice bJ aN.length bK, .int .i64 cC, .int .i64 aT, .int .i64 aU]) ?_ 2 _ rfl; exact qB aB.out) hb); have n1_ := Aside0.mk (blk_below (g := aD) (o := .cells #[.slice none 0 0, .slice none 0 0, .slice none 0 0, .slice none 0 0, .int .i64 0] 28 (0, 0)) (by (with_reducible repeat (first | refine blk_drewN ?_ _ | refine blk_drew ?_ | refine blk_alloc ?_ _)); refine blk_far ?_ bZ.out _; exact qB aC.out) hb); have n2_ := Aside0.mk (below_step (qW HB.out) hb); clear aB aC HB; have aB := n0_; have aC := n1_; have HB := n2_; clear n0_ n1_ n2_; (try clear hb); (try clear hb2); (try clear hk); (try clear hi); have jK : w76.cell? ⟨aD, 0, none⟩ = some (.slice none 0 0) := (blk_cell aC.out 0).trans rfl; have jL : w76.cell? ⟨aD, 1, none⟩ = some (.slice none 0 0) := (blk_cell aC.out 1).trans rfl; have jM : w76.cell? ⟨aD, 2, none⟩ = some (.slice none 0 0) := (blk_cell aC.out 2).trans rfl; have jN : w76.cell? ⟨aD, 3, none⟩ = some (.slice none 0 0) := (blk_cell aC.out 3).trans rfl; have jO : w76.cell? ⟨aD, 4, none⟩ = some (.int .i64 0) := (blk_cell aC.out 4).trans rfl; have jP := blk_frozen aC.out 0; have jQ := blk_frozen aC.out 1; have jR := blk_frozen aC.out 2; have jS := blk_frozen aC.out 3; have jT := blk_frozen aC.out 4))
  refine bodyPost_ret (results_list (rs := [.tmp 4, .cell 5 28, .tmp 6]) rfl (by simp) (.tmp (.cell aD 28 #[.slice none 0 0, .slice none 0 0, .slice none 0 0, .slice none 0 0, .int .i64 0] (0, 0) _ rfl (by (with_reducible repeat (first | refine blk_drewN ?_ _ | refine blk_drew ?_ | refine blk_alloc ?_ _)); refine blk_put (cs := #[.slice none 0 0, .slice none 0 0, .slice none 0 0, .slice none 0 0, .int .i64 0]) ?_ 4 _ rfl; (with_reducible repeat (first | refine blk_drewN ?_ _ | refine blk_drew ?_ | refine blk_alloc ?_ _)); refine blk_put (cs := #[.slice none 0 0, .slice none 0 0, .slice none 0 0, .slice none 0 0, .int .i64 0]) ?_ 3 _ rfl; (with_reducible repeat (first | refine blk_drewN ?_ _ | refine blk_drew ?_ | refine blk_alloc ?_ _)); refine blk_put (cs := #[.slice none 0 0, .slice none 0 0, .slice none 0 0, .slice none 0 0, .int .i64 0]) ?_ 2 _ rfl; (with_reducible repeat (first | refine blk_drewN ?_ _ | refine blk_drew ?_ | refine blk_alloc ?_ _)); refine blk_put (cs := #[.slice none 0 0, .slice none 0 0, .slice none 0 0, .slice none 0 0, .int .i64 0]) ?_ 1 _ rfl; (with_reducible repeat (first | refine blk_drewN ?_ _ | refine blk_drew ?_ | refine blk_alloc ?_ _)); refine blk_put (cs := #[.slice none 0 0, .slice none 0 0, .slice none 0 0, .slice none 0 0, .int .i64 0]) ?_ 0 _ rfl; exact qB aC.out) Try.underlying28 rfl (by kernel_rfl) (.tmp .nil)))) rfl ?_
  exact ⟨_, _, _, _, by first | rfl | (simp [errW_none, errW_some] <;> rfl) | (simp [*, errW_none, errW_some] <;> rfl), by first | exact Kd.R_nil _ _ _ _ _ | exact Kd.N_nil _ _ _ _ _ | exact Kd.V_nil _ _ _ _ _ | exact Kd.Q_nil _ _ _ _ _ | exact Kd.S_nil _ _ _ _ _, by first | exact Kd.R_nil _ _ _ _ _ | exact Kd.N_nil _ _ _ _ _ | exact Kd.V_nil _ _ _ _ _ | exact Kd.Q_nil _ _ _ _ _ | exact Kd.S_nil _ _ _ _ _, by first | exact Kd.R_nil _ _ _ _ _ | exact Kd.N_nil _ _ _ _ _ | exact Kd.V_nil _ _ _ _ _ | exact Kd.Q_nil _ _ _ _ _ | exact Kd.S_nil _ _ _ _ _, by first | exact Kd.R_nil _ _ _ _ _ | exact Kd.N_nil _ _ _ _ _ | exact Kd.V_nil _ _ _ _ _ | exact Kd.Q_nil _ _ _ _ _ | exact Kd.S_nil _ _ _ _ _, by repeat (first | (with_reducible first | exact HB.out | apply below_alloc | apply pw_below_drewN | apply below_drew1 | refine below_set ?_ cD.out | refine below_set ?_ cE.out) | exact HB.out)⟩
 rw [if_pos c6] at H
 have eG : (t473 == 0) = true := beq_iff_eq.mpr c6
 have eH : (t473 != 0) = false := bne_eq_false_iff_eq.mpr c6
 clear c6
 replace H := Option.bind_eq_some_iff.mp H
 obtain ⟨⟨t474, t477⟩, A70, H⟩ := H
 replace H : (planner_Best.l0 k 0 a1 0 aS aN 1 aT aU t474 t477 ([] : List Int) ([] : List Int) ([] : List Int) ([] : List Int) 0) = some (r1, r2, r3, r4, r5, r6, r7) := H
 have A7 := Aside0.mk A70
 clear A70
 have H' := Aside0.mk H
 clear H
 go_enter Try.func31, Try.ntmps31
 go_wp2_with (first | ((with_reducible refine gate_dst (N := 2) rfl ?_); refine box_event ?hg (N := 2) ?hd (cs := #[.slice bH aS.length bI, .slice bJ aN.length bK, .int .i64 cC, .int .i64 aT, .int .i64 aU]) (t := 24) ?hr ?_; (case hd => rfl); (case hg => rfl); (case hr => first | (go_simp; done) | (go_simp; rfl)); intro aF hg w8 hbox hb; have n0_ := Aside0.mk (below_step (qW HB.out) hb); have n1_ := Aside0.mk (hbox); have n2_ := Aside0.mk ((by rw [hg]; exact (below_size (qW HB.out)) : w.heap.size ≤ aF)); have n3_ := Aside0.mk ((by rw [hg]; exact (below_size (qW HB.out)) : w.heap.size ≤ aF)); clear HB; have HB := n0_; have aB := n1_; have eP := n2_; have cD := n3_; clear n0_ n1_ n2_ n3_ hb hbox hg) | ((with_reducible refine gate_dst (N := 5) rfl ?_); refine box_event ?hg (N := 5) ?hd (cs := #[.slice none 0 0, .slice none 0 0, .slice none 0 0, .slice none 0 0, .int .i64 0]) (t := 28) ?hr ?_; (case hd => rfl); (case hg => rfl); (case hr => first | (go_simp; done) | (go_simp; rfl)); intro aD hg w9 hbox hb; have n0_ := Aside0.mk (blk_below (qB aB.out) hb); have n1_ := Aside0.mk (below_step (qW HB.out) hb); have n2_ := Aside0.mk (hbox); have n3_ := Aside0.mk ((by rw [hg]; exact (below_size (qW HB.out)) : w.heap.size ≤ aD)); have n4_ := Aside0.mk ((by rw [hg]; exact (below_size (qW HB.out)) : w.heap.size ≤ aD)); have n5_ := Aside0.mk ((by rw [hg]; exact Nat.ne_of_lt (blk_lt (qB aB.out)) : aF ≠ aD)); have n6_ := Aside0.mk ((by rw [hg]; exact Nat.ne_of_gt (blk_lt (qB aB.out)) : aD ≠ aF)); clear aB HB; have aB := n0_; have HB := n1_; have aC := n2_; have eQ := n3_; have cE := n4_; have cF := n5_; have bZ := n6_; clear n0_ n1_ n2_ n3_ n4_ n5_ n6_ hb hbox hg) | ((with_reducible refine gate_callee (f := 40) rfl ?_); refine goesL_ (some 15) rfl rfl Try.func40 (by kernel_rfl) rfl #[.int .i64 a1, .int .i64 1, .int .i64 4096] rfl (by (try simp only [List.map_toArray, List.map_cons, List.map_nil]); first | done | rfl | (simp only [List.length_drop, List.length_take]; rfl)) ?_; (with_reducible refine (planner_between.calls a1 1 4096 true _ A3.out).mono ?_); rintro e w' ⟨rfl, ⟨nd, rfl⟩⟩; refine ⟨_, rfl, ?_⟩; (try (rw [drewN_self w9]; generalize hq_ : World.drewN w9 _ = w9; have n0_ : Aside0 (w9.heap[aF]? = some (.cells #[.slice bH aS.length bI, .slice bJ aN.length bK, .int .i64 cC, .int .i64 aT, .int .i64 aU] 24 (0, 0))) := ⟨by rw [← hq_]; exact (qB aB.out)⟩; have n1_ : Aside0 (w9.heap[aD]? = some (.cells #[.slice none 0 0, .slice none 0 0, .slice none 0 0, .slice none 0 0, .int .i64 0] 28 (0, 0))) := ⟨by rw [← hq_]; exact (qB aC.out)⟩; have n2_ : Aside0 (Below w.heap.size w w9) := ⟨by rw [← hq_]; exact (qW HB.out)⟩; clear aB aC HB hq_; have aB := n0_; have aC := n1_; have HB := n2_; clear n0_ n1_ n2_)); have jU := cF.out; have jV := bZ.out; have eR : w9.cell? ⟨aF, 0, none⟩ = some (.slice bH aS.length bI) := (blk_cell aB.out 0).trans rfl; have eS : w9.cell? ⟨aF, 1, none⟩ = some (.slice bJ aN.length bK) := (blk_cell aB.out 1).trans rfl; have eT : w9.cell? ⟨aF, 2, none⟩ = some (.int .i64 cC) := (blk_cell aB.out 2).trans rfl; have eU : w9.cell? ⟨aF, 3, none⟩ = some (.int .i64 aT) := (blk_cell aB.out 3).trans rfl; have eV : w9.cell? ⟨aF, 4, none⟩ = some (.int .i64 aU) := (blk_cell aB.out 4).trans rfl; have eW := blk_frozen aB.out 0; have eX := blk_frozen aB.out 1; have eY := blk_frozen aB.out 2; have eZ := blk_frozen aB.out 3; have fA := blk_frozen aB.out 4) | ((with_reducible refine gate_callee (f := 15) rfl ?_); refine goesL_ (some 20) rfl rfl Try.func15 (by kernel_rfl) rfl #[.agg #[.slice bH aS.length bI, .slice bJ aN.length bK, .int .i64 1, .int .i64 aT, .int .i64 aU]] rfl (by (try simp only [List.map_toArray, List.map_cons, List.map_nil]); first | done | rfl | (simp only [List.length_drop, List.length_take]; rfl)) ?_; (with_reducible refine (planner_Check.calls k _ _ aS _ _ aN 1 aT aU t473 _ ?side1 ?side2 ?side3 ?side4 A5.out).mono ?_); (case side1 => exact Kd.C_below eE.out (qW HB.out)); (case side2 => exact eF.out); (case side3 => exact Kd.C_below dX.out (qW HB.out)); (case side4 => exact dY.out); rintro e w12 ⟨rfl, hb⟩; refine ⟨_, rfl, ?_⟩; have n0_ := Aside0.mk (blk_below (g := aF) (o := .cells #[.slice bH aS.length bI, .slice bJ aN.length bK, .int .i64 1, .int .i64 aT, .int .i64 aU] 24 (0, 0)) (by (with_reducible repeat (first | refine blk_drewN ?_ _ | refine blk_drew ?_ | refine blk_alloc ?_ _)); refine blk_put (cs := #[.slice bH aS.length bI, .slice bJ aN.length bK, .int .i64 cC, .int .i64 aT, .int .i64 aU]) ?_ 2 _ rfl; exact qB aB.out) hb); have n1_ := Aside0.mk (blk_below (g := aD) (o := .cells #[.slice none 0 0, .slice none 0 0, .slice none 0 0, .slice none 0 0, .int .i64 0] 28 (0, 0)) (by (with_reducible repeat (first | refine blk_drewN ?_ _ | refine blk_drew ?_ | refine blk_alloc ?_ _)); refine blk_far ?_ bZ.out _; exact qB aC.out) hb); have n2_ := Aside0.mk (below_step (qW HB.out) hb); clear aB aC HB; have aB := n0_; have aC := n1_; have HB := n2_; clear n0_ n1_ n2_; (try clear hb); (try clear hb2); (try clear hk); (try clear hi); have fB : w12.cell? ⟨aF, 0, none⟩ = some (.slice bH aS.length bI) := (blk_cell aB.out 0).trans rfl; have fC : w12.cell? ⟨aF, 1, none⟩ = some (.slice bJ aN.length bK) := (blk_cell aB.out 1).trans rfl; have fD : w12.cell? ⟨aF, 2, none⟩ = some (.int .i64 1) := (blk_cell aB.out 2).trans rfl; have fE : w12.cell? ⟨aF, 3, none⟩ = some (.int .i64 aT) := (blk_cell aB.out 3).trans rfl; have fF : w12.cell? ⟨aF, 4, none⟩ = some (.int .i64 aU) := (blk_cell aB.out 4).trans rfl; have fG := blk_frozen aB.out 0; have fH := blk_frozen aB.out 1; have fI := blk_frozen aB.out 2; have fJ := blk_frozen aB.out 3; have fK := blk_frozen aB.out 4))
 (with_reducible refine (NEWCV.calls _ _ aN t474 t477 _ ?side1 ?side2 A7.out).mono ?_); (case side1 => exact qC dX.out HB.out); (case side2 => exact dY.out); rintro e w16 ⟨cA, bR, bP, rfl, hbox, ho0, hge, hb⟩; have n0_ := Aside0.mk (Kd.R_lower (Kd.R_mono ho0 (fun _ _ => trivial)) (below_size (qW HB.out))); have n1_ := Aside0.mk (blk_below (qB aB.out) hb); have n2_ := Aside0.mk (blk_below (qB aC.out) hb); have n3_ := Aside0.mk (below_step (qW HB.out) hb); have fL := Aside0.mk (hbox); have eI := Aside0.mk (Nat.le_trans (below_size (qW HB.out)) hge); have n100_ := Aside0.mk ((Nat.ne_of_lt (Nat.lt_of_lt_of_le (blk_lt (qB aB.out)) hge)) : aF ≠ cA); have n101_ := Aside0.mk ((Nat.ne_of_gt (Nat.lt_of_lt_of_le (blk_lt (qB aB.out)) hge)) : cA ≠ aF); have n102_ := Aside0.mk ((Nat.ne_of_lt (Nat.lt_of_lt_of_le (blk_lt (qB aC.out)) hge)) : aD ≠ cA); have n103_ := Aside0.mk ((Nat.ne_of_gt (Nat.lt_of_lt_of_le (blk_lt (qB aC.out)) hge)) : cA ≠ aD); clear aB aC HB; have dZ := n0_; have aB := n1_; have aC := n2_; have HB := n3_; have aW := fL; have jW := eI; have cQ := eI; have gM := n100_; have eJ := n101_; have dC := n102_; have dD := n103_; clear n0_ n1_ n2_ n3_ fL eI n100_ n101_ n102_ n103_ hb hbox ho0 hge
 go_wp2_with (first | ((with_reducible refine gate_dst (N := 10) rfl ?_); refine box_event ?hg (N := 10) ?hd (cs := #[.slice none 0 0, .slice none 0 0, .slice none 0 0, .slice none 0 0, .int .i64 0]) (t := 28) ?hr ?_; (case hd => rfl); (case hg => rfl); (case hr => first | (go_simp; done) | (go_simp; rfl)); intro aE hg w17 hbox hb; have n0_ := Aside0.mk (Kd.R_below (qR dZ.out) hb); have n1_ := Aside0.mk (blk_below (qB aB.out) hb); have n2_ := Aside0.mk (blk_below (qB aC.out) hb); have n3_ := Aside0.mk (blk_below (qB aW.out) hb); have n4_ := Aside0.mk (below_step (qW HB.out) hb); have n5_ := Aside0.mk (hbox); have n6_ := Aside0.mk ((by rw [hg]; exact (below_size (qW HB.out)) : w.heap.size ≤ aE)); have n7_ := Aside0.mk ((by rw [hg]; exact (below_size (qW HB.out)) : w.heap.size ≤ aE)); have n8_ := Aside0.mk ((by rw [hg]; exact Nat.ne_of_lt (blk_lt (qB aB.out)) : aF ≠ aE)); have n9_ := Aside0.mk ((by rw [hg]; exact Nat.ne_of_gt (blk_lt (qB aB.out)) : aE ≠ aF)); have cI := Aside0.mk ((by rw [hg]; exact Nat.ne_of_lt (blk_lt (qB aC.out)) : aD ≠ aE)); have cJ := Aside0.mk ((by rw [hg]; exact Nat.ne_of_gt (blk_lt (qB aC.out)) : aE ≠ aD)); have cK := Aside0.mk ((by rw [hg]; exact Nat.ne_of_lt (blk_lt (qB aW.out)) : cA ≠ aE)); have cL := Aside0.mk ((by rw [hg]; exact Nat.ne_of_gt (blk_lt (qB aW.out)) : aE ≠ cA)); clear dZ aB aC aW HB; have dZ := n0_; have aB := n1_; have aC := n2_; have aW := n3_; have HB := n4_; have aM := n5_; have jX := n6_; have cR := n7_; have cG := n8_; have cS := n9_; have bU := cI; have aV := cJ; have cH := cK; have dE := cL; clear n0_ n1_ n2_ n3_ n4_ n5_ n6_ n7_ n8_ n9_ cI cJ cK cL hb hbox hg))
 go_loopg [9, 30] k (fun kq v9 v30 w' => ∃ (bN : Int) (aJ : Int) (dQ : Int) (bO : List Int) (bQ : List Int) (bS : List Int) (bV : List Int) (aY : Int) (bL : Value) (bG : Value) (bB : Value) (aZ : Value), v9 = .int .i64 bN ∧ v30 = .int .i64 aJ ∧ Aside0 (planner_Best.l0 kq bN a1 aJ aS aN dQ aT aU t474 t477 bO bQ bS bV aY = some (r1, r2, r3, r4, r5, r6, r7)) ∧ Aside0 (kq ≤ k) ∧ Aside0 (Kd.R (Kd.int .i64) 3 w' w.heap.size (fun k_ => some k_ ≠ (bL : Value).ownBlock ∧ some k_ ≠ (bG : Value).ownBlock ∧ some k_ ≠ (bB : Value).ownBlock ∧ some k_ ≠ (aZ : Value).ownBlock) (.slice bR t474.length bP) t474) ∧ Aside0 (Kd.R (Kd.int .i64) 3 w' w.heap.size (fun k_ => some k_ ≠ ((.slice bR t474.length bP) : Value).ownBlock ∧ some k_ ≠ (bG : Value).ownBlock ∧ some k_ ≠ (bB : Value).ownBlock ∧ some k_ ≠ (aZ : Value).ownBlock) bL bO) ∧ Aside0 (Kd.R (Kd.int .i64) 3 w' w.heap.size (fun k_ => some k_ ≠ ((.slice bR t474.length bP) : Value).ownBlock ∧ some k_ ≠ (bL : Value).ownBlock ∧ some k_ ≠ (bB : Value).ownBlock ∧ some k_ ≠ (aZ : Value).ownBlock) bG bQ) ∧ Aside0 (Kd.R (Kd.int .i64) 3 w' w.heap.size (fun k_ => some k_ ≠ ((.slice bR t474.length bP) : Value).ownBlock ∧ some k_ ≠ (bL : Value).ownBlock ∧ some k_ ≠ (bG : Value).ownBlock ∧ some k_ ≠ (aZ : Value).ownBlock) bB bS) ∧ Aside0 (Kd.R (Kd.int .i64) 3 w' w.heap.size (fun k_ => some k_ ≠ ((.slice bR t474.length bP) : Value).ownBlock ∧ some k_ ≠ (bL : Value).ownBlock ∧ some k_ ≠ (bG : Value).ownBlock ∧ some k_ ≠ (bB : Value).ownBlock) aZ bV) ∧ Aside0 (w'.heap[aF]? = some (.cells #[(.slice bH aS.length bI), (.slice bJ aN.length bK), .int .i64 dQ, .int .i64 aT, .int .i64 aU] 24 (0, 0))) ∧ Aside0 (w'.heap[aD]? = some (.cells #[(.slice none 0 0), (.slice none 0 0), (.slice none 0 0), (.slice none 0 0), .int .i64 0] 28 (0, 0))) ∧ Aside0 (w'.heap[cA]? = some (.cells #[(.slice bR t474.length bP), .int .i64 t477] 91 (0, 0))) ∧ Aside0 (w'.heap[aE]? = some (.cells #[bL, bG, bB, aZ, .int .i64 aY] 28 (0, 0))) ∧ Aside0 (Below w.heap.size w w'))
 case atStart => exact ⟨(0), (0), (1), (([] : List Int)), (([] : List Int)), (([] : List Int)), (([] : List Int)), (0), (.slice none 0 0), (.slice none 0 0), (.slice none 0 0), (.slice none 0 0), (by first | rfl | (simp; done) | (simp [*]; done)), (by first | rfl | (simp; done) | (simp [*]; done)), H', ⟨Nat.le_refl _⟩, ⟨by exact qR (Kd.R_mono dZ.out (fun _ hk => ⟨(by simp [Value.ownBlock]), ⟨(by simp [Value.ownBlock]), ⟨(by simp [Value.ownBlock]), (by simp [Value.ownBlock])⟩⟩⟩))⟩, ⟨by first | exact Kd.R_nil _ _ _ _ _ | exact Kd.N_nil _ _ _ _ _ | exact Kd.V_nil _ _ _ _ _ | exact Kd.Q_nil _ _ _ _ _ | exact Kd.S_nil _ _ _ _ _⟩, ⟨by first | exact Kd.R_nil _ _ _ _ _ | exact Kd.N_nil _ _ _ _ _ | exact Kd.V_nil _ _ _ _ _ | exact Kd.Q_nil _ _ _ _ _ | exact Kd.S_nil _ _ _ _ _⟩, ⟨by first | exact Kd.R_nil _ _ _ _ _ | exact Kd.N_nil _ _ _ _ _ | exact Kd.V_nil _ _ _ _ _ | exact Kd.Q_nil _ _ _ _ _ | exact Kd.S_nil _ _ _ _ _⟩, ⟨by first | exact Kd.R_nil _ _ _ _ _ | exact Kd.N_nil _ _ _ _ _ | exact Kd.V_nil _ _ _ _ _ | exact Kd.Q_nil _ _ _ _ _ | exact Kd.S_nil _ _ _ _ _⟩, ⟨by exact qB aB.out⟩, ⟨by exact qB aC.out⟩, ⟨by exact qB aW.out⟩, ⟨by exact qB aM.out⟩, ⟨by repeat (first | (with_reducible first | exact HB.out | apply below_alloc | apply pw_below_drewN | apply below_drew1 | refine below_set ?_ cD.out | refine below_set ?_ cE.out | refine below_set ?_ cQ.out | refine below_set ?_ cR.out) | exact HB.out)⟩⟩
 case round =>
  clear H'
  try clear c1
  try clear p2
  try clear c3
  try clear c4
  try clear c6
  try clear eG
  try clear eH
  try clear c10
  try clear c15
  try clear eR
  try clear eS
  try clear eT
  try clear eU
  try clear eV
  try clear fB
  try clear fC
  try clear fD
  try clear fE
  try clear fF
  try clear eW
  try clear eX
  try clear eY
  try clear eZ
  try clear fA
  try clear fG
  try clear fH
  try clear fI
  try clear fJ
  try clear fK
  obtain ⟨bN, aJ, dQ, bO, bQ, bS, bV, aY, bL, bG, bB, aZ, rfl, rfl, HA, HK1, bA, bC, bD, bE, bF, aB, aC, aW, aM, HB⟩ := hrel
  cases gk with
  | zero => exact absurd HA.out (by simp [planner_Best.l0])
  | succ k1 =>
   have H := HA.out
   clear HA
   simp only [planner_Best.l0] at H
   by_cases c18 : aJ < a1
   case neg =>
    rw [if_neg c18] at H
    have fM : decide (aJ < a1) = false := decide_eq_false c18
    clear c18
    by_cases c57 : bN = 0
    ·rw [if_pos c57] at H
     have gN : (bN == 0) = true := beq_iff_eq.mpr c57
     have gO : (bN != 0) = false := bne_eq_false_iff_eq.mpr c57
     clear c57
     simp only [Option.some.injEq, Prod.mk.injEq] at H
     obtain ⟨rfl, rfl, rfl, rfl, rfl, rfl, rfl⟩ := H
     have jY := bZ.out
     have jZ := cF.out
     have kA := dC.out
     have kB := dD.out
     have kC := bU.out
     have kD := aV.out
     have kE : wr.cell? ⟨aD, 0, none⟩ = some (.slice none 0 0) := (blk_cell aC.out 0).trans rfl
     have kF : wr.cell? ⟨aD, 1, none⟩ = some (.slice none 0 0) := (blk_cell aC.out 1).trans rfl
     have kG : wr.cell? ⟨aD, 2, none⟩ = some (.slice none 0 0) := (blk_cell aC.out 2).trans rfl
     have kH : wr.cell? ⟨aD, 3, none⟩ = some (.slice none 0 0) := (blk_cell aC.out 3).trans rfl
     have kI : wr.cell? ⟨aD, 4, none⟩ = some (.int .i64 0) := (blk_cell aC.out 4).trans rfl
     have kJ := blk_frozen aC.out 0
     have kK := blk_frozen aC.out 1
     have kL := blk_frozen aC.out 2
     have kM := blk_frozen aC.out 3
     have kN := blk_frozen aC.out 4
     go_wp2
     refine bodyPost_ret (results_list (rs := [.tmp 4, .cell 5 28, .tmp 6]) rfl (by simp) (.tmp (.cell aD 28 #[.slice none 0 0, .slice none 0 0, .slice none 0 0, .slice none 0 0, .int .i64 0] (0, 0) _ rfl (by (with_reducible repeat (first | refine blk_drewN ?_ _ | refine blk_drew ?_ | refine blk_alloc ?_ _)); refine blk_put (cs := #[.slice none 0 0, .slice none 0 0, .slice none 0 0, .slice none 0 0, .int .i64 0]) ?_ 4 _ rfl; (with_reducible repeat (first | refine blk_drewN ?_ _ | refine blk_drew ?_ | refine blk_alloc ?_ _)); refine blk_put (cs := #[.slice none 0 0, .slice none 0 0, .slice none 0 0, .slice none 0 0, .int .i64 0]) ?_ 3 _ rfl; (with_reducible repeat (first | refine blk_drewN ?_ _ | refine blk_drew ?_ | refine blk_alloc ?_ _)); refine blk_put (cs := #[.slice none 0 0, .slice none 0 0, .slice none 0 0, .slice none 0 0, .int .i64 0]) ?_ 2 _ rfl; (with_reducible repeat (first | refine blk_drewN ?_ _ | refine blk_drew ?_ | refine blk_alloc ?_ _)); refine blk_put (cs := #[.slice none 0 0, .slice none 0 0, .slice none 0 0, .slice none 0 0, .int .i64 0]) ?_ 1 _ rfl; (with_reducible repeat (first | refine blk_drewN ?_ _ | refine blk_drew ?_ | refine blk_alloc ?_ _)); refine blk_put (cs := #[.slice none 0 0, .slice none 0 0, .slice none 0 0, .slice none 0 0, .int .i64 0]) ?_ 0 _ rfl; exact qB aC.out) Try.underlying28 rfl (by kernel_rfl) (.tmp .nil)))) rfl ?_
     exact ⟨_, _, _, _, by first | rfl | (simp [errW_none, errW_some] <;> rfl) | (simp [*, errW_none, errW_some] <;> rfl), by first | exact Kd.R_nil _ _ _ _ _ | exact Kd.N_nil _ _ _ _ _ | exact Kd.V_nil _ _ _ _ _ | exact Kd.Q_nil _ _ _ _ _ | exact Kd.S_nil _ _ _ _ _, by first | exact Kd.R_nil _ _ _ _ _ | exact Kd.N_nil _ _ _ _ _ | exact Kd.V_nil _ _ _ _ _ | exact Kd.Q_nil _ _ _ _ _ | exact Kd.S_nil _ _ _ _ _, by first | exact Kd.R_nil _ _ _ _ _ | exact Kd.N_nil _ _ _ _ _ | exact Kd.V_nil _ _ _ _ _ | exact Kd.Q_nil _ _ _ _ _ | exact Kd.S_nil _ _ _ _ _, by first | exact Kd.R_nil _ _ _ _ _ | exact Kd.N_nil _ _ _ _ _ | exact Kd.V_nil _ _ _ _ _ | exact Kd.Q_nil _ _ _ _ _ | exact Kd.S_nil _ _ _ _ _, by repeat (first | (with_reducible first | exact HB.out | apply below_alloc | apply pw_below_drewN | apply below_drew1 | refine below_set ?_ cD.out | refine below_set ?_ cE.out | refine below_set ?_ cQ.out | refine below_set ?_ cR.out) | exact HB.out)⟩
    ·rw [if_neg c57] at H
     have gN : (bN == 0) = false := beq_eq_false_iff_ne.mpr c57
     have gO : (bN != 0) = true := bne_iff_ne.mpr c57
     simp only [Option.some.injEq, Prod.mk.injEq] at H
     obtain ⟨rfl, rfl, rfl, rfl, rfl, rfl, rfl⟩ := H
     try go_wp2
     have n0_ := Aside0.mk (Kd.R_drew bA.out)
     have n1_ := Aside0.mk (Kd.R_drew bC.out)
     have n2_ := Aside0.mk (Kd.R_drew bD.out)
     have n3_ := Aside0.mk (Kd.R_drew bE.out)
     have n4_ := Aside0.mk (Kd.R_drew bF.out)
     have n5_ := Aside0.mk (blk_drew aB.out)
     have n6_ := Aside0.mk (blk_drew aC.out)
     have n7_ := Aside0.mk (blk_drew aW.out)
     have n8_ := Aside0.mk (blk_drew aM.out)
     have n9_ := Aside0.mk (below_drew1 HB.out)
     clear bA bC bD bE bF aB aC aW aM HB
     have bA := n0_
     have bC := n1_
     have bD := n2_
     have bE := n3_
     have bF := n4_
     have aB := n5_
     have aC := n6_
     have aW := n7_
     have aM := n8_
     have HB := n9_
     clear n0_ n1_ n2_ n3_ n4_ n5_ n6_ n7_ n8_ n9_
     obtain ⟨cM, cN, fN⟩ := Kd.R_slice bC.out
     (first | subst fN | (injection fN with f1_ f2_ f3_; have f4_ := f1_.symm; have f5_ := f3_.symm; clear f1_ f2_ f3_; subst f4_; subst f5_))
     obtain ⟨cO, cP, fO⟩ := Kd.R_slice bD.out
     (first | subst fO | (injection fO with f1_ f2_ f3_; have f4_ := f1_.symm; have f5_ := f3_.symm; clear f1_ f2_ f3_; subst f4_; subst f5_))
     obtain ⟨cT, cU, fP⟩ := Kd.R_slice bE.out
     (first | subst fP | (injection fP with f1_ f2_ f3_; have f4_ := f1_.symm; have f5_ := f3_.symm; clear f1_ f2_ f3_; subst f4_; subst f5_))
     obtain ⟨dF, dG, fQ⟩ := Kd.R_slice bF.out
     (first | subst fQ | (injection fQ with f1_ f2_ f3_; have f4_ := f1_.symm; have f5_ := f3_.symm; clear f1_ f2_ f3_; subst f4_; subst f5_))
     refine start_ (n := 5) (S := fun w' => w'.cell? ⟨aE, 0, none⟩ = some (.slice cM bO.length cN) ∧ w'.cell? ⟨aE, 1, none⟩ = some (.slice cO bQ.length cP) ∧ w'.cell? ⟨aE, 2, none⟩ = some (.slice cT bS.length cU) ∧ w'.cell? ⟨aE, 3, none⟩ = some (.slice dF bV.length dG) ∧ w'.cell? ⟨aE, 4, none⟩ = some (.int .i64 aY)) (ds := []) #[false, false, false, false, false] (by kernel_rfl) rfl rfl ⟨(blk_cell aM.out 0).trans rfl, (blk_cell aM.out 1).trans rfl, (blk_cell aM.out 2).trans rfl, (blk_cell aM.out 3).trans rfl, (blk_cell aM.out 4).trans rfl⟩ (fun hHeld => ?_)
     generalize wr.drew = w62 at bA bC bD bE bF aB aC aW aM HB hHeld ⊢
     refine pure_ (i := 0) (N := some 62) (v := ?_) (a' := ?_) #[true, false, false, false, false] rfl rfl (by kernel_rfl) (fun _ _ _ h => h) (Or.inl ⟨by rfl, ?_⟩) ?_ ?_; rotate_left
     ·intro w'
      go_simp
      with_reducible rfl
     rotate_left
     ·simp only [Act.put, List.setIfInBounds_toArray, List.set_cons_zero, List.set_cons_succ, i64_w, i32_w]
      rfl
     refine pure_ (i := 2) (N := some 4) (v := ?_) (a' := ?_) #[true, false, true, false, false] rfl rfl (by kernel_rfl) (fun _ _ _ h => h) (Or.inl ⟨by rfl, ?_⟩) ?_ ?_; rotate_left
     ·intro w'
      go_simp
      with_reducible rfl
     rotate_left
     ·simp only [Act.put, List.setIfInBounds_toArray, List.set_cons_zero, List.set_cons_succ, i64_w, i32_w]
      rfl
     refine take_ (i := 1) (N := some 63) (v := ?_) (a' := ?_) #[true, true, true, false, false] rfl rfl (by kernel_rfl) (fun _ _ _ h => h) (Or.inl ⟨by rfl, ?_⟩) hHeld ?_ ?_; rotate_left
     ·rintro w' ⟨s0, s1, s2, s3, s4⟩
      go_simp
      with_reducible rfl
     rotate_left
     ·simp only [Act.put, List.setIfInBounds_toArray, List.set_cons_zero, List.set_cons_succ, i64_w, i32_w]
      rfl
     refine one_ (i := 3) (N := none) #[true, true, true, true, false] rfl rfl (by kernel_rfl) (by decide) (fun K hK => ?_)
     have hs64 : w62.cell? ⟨aD, 0, none⟩ = some (.slice none 0 0) := (blk_cell aC.out 0).trans rfl
     have hfs64 := blk_frozen aC.out 0
     have hns64_0 := cF.out
     have hns64_2 := dD.out
     have hns64_3 := aV.out
     have hms64_0 := bZ.out
     have hms64_2 := dC.out
     have hms64_3 := bU.out
     have hs66 : w62.cell? ⟨aD, 1, none⟩ = some (.slice none 0 0) := (blk_cell aC.out 1).trans rfl
     have hfs66 := blk_frozen aC.out 1
     have hns66_0 := cF.out
     have hns66_2 := dD.out
     have hns66_3 := aV.out
     have hms66_0 := bZ.out
     have hms66_2 := dC.out
     have hms66_3 := bU.out
     have hs68 : w62.cell? ⟨aD, 2, none⟩ = some (.slice none 0 0) := (blk_cell aC.out 2).trans rfl
     have hfs68 := blk_frozen aC.out 2
     have hns68_0 := cF.out
     have hns68_2 := dD.out
     have hns68_3 := aV.out
     have hms68_0 := bZ.out
     have hms68_2 := dC.out
     have hms68_3 := bU.out
     have hs70 : w62.cell? ⟨aD, 3, none⟩ = some (.slice none 0 0) := (blk_cell aC.out 3).trans rfl
     have hfs70 := blk_frozen aC.out 3
     have hns70_0 := cF.out
     have hns70_2 := dD.out
     have hns70_3 := aV.out
     have hms70_0 := bZ.out
     have hms70_2 := dC.out
     have hms70_3 := bU.out
     have hs71 : w62.cell? ⟨aD, 4, none⟩ = some (.int .i64 0) := (blk_cell aC.out 4).trans rfl
     have hfs71 := blk_frozen aC.out 4
     have hns71_0 := cF.out
     have hns71_2 := dD.out
     have hns71_3 := aV.out
     have hms71_0 := bZ.out
     have hms71_2 := dC.out
     have hms71_3 := bU.out
     refine skip_ (w1 := ?_) (by rfl) rfl ?_ ?_; rotate_left
     ·go_simp
      rfl
     refine hK.out _ _ ⟨((cell_far (p := ⟨aD, _, none⟩) aV.out _).trans (((cell_far (p := ⟨aD, _, none⟩) aV.out _).trans (((cell_far (p := ⟨aD, _, none⟩) aV.out _).trans (((cell_far (p := ⟨aD, _, none⟩) aV.out _).trans (((cell_far (p := ⟨aD, _, none⟩) aV.out _).trans (hHeld.1)))))))))), ((cell_far (p := ⟨aD, _, none⟩) aV.out _).trans (((cell_far (p := ⟨aD, _, none⟩) aV.out _).trans (((cell_far (p := ⟨aD, _, none⟩) aV.out _).trans (((cell_far (p := ⟨aD, _, none⟩) aV.out _).trans (((cell_far (p := ⟨aD, _, none⟩) aV.out _).trans (hHeld.2.1)))))))))), ((cell_far (p := ⟨aD, _, none⟩) aV.out _).trans (((cell_far (p := ⟨aD, _, none⟩) aV.out _).trans (((cell_far (p := ⟨aD, _, none⟩) aV.out _).trans (((cell_far (p := ⟨aD, _, none⟩) aV.out _).trans (((cell_far (p := ⟨aD, _, none⟩) aV.out _).trans (hHeld.2.2.1)))))))))), ((cell_far (p := ⟨aD, _, none⟩) aV.out _).trans (((cell_far (p := ⟨aD, _, none⟩) aV.out _).trans (((cell_far (p := ⟨aD, _, none⟩) aV.out _).trans (((cell_far (p := ⟨aD, _, none⟩) aV.out _).trans (((cell_far (p := ⟨aD, _, none⟩) aV.out _).trans (hHeld.2.2.2.1)))))))))), ((cell_far (p := ⟨aD, _, none⟩) aV.out _).trans (((cell_far (p := ⟨aD, _, none⟩) aV.out _).trans (((cell_far (p := ⟨aD, _, none⟩) aV.out _).trans (((cell_far (p := ⟨aD, _, none⟩) aV.out _).trans (((cell_far (p := ⟨aD, _, none⟩) aV.out _).trans (hHeld.2.2.2.2))))))))))⟩ (fun hHeld => ?_); clear hK K
     refine pure_ (i := 4) (N := some 6) (v := ?_) (a' := ?_) #[true, true, true, true, true] rfl rfl (by kernel_rfl) (fun _ _ _ h => h) (Or.inl ⟨by rfl, ?_⟩) ?_ ?_; rotate_left
     ·intro w'
      go_simp
      with_reducible rfl
     rotate_left
     ·simp only [Act.put, List.setIfInBounds_toArray, List.set_cons_zero, List.set_cons_succ, i64_w, i32_w]
      rfl
     refine done_ (by kernel_rfl) ?_
     try go_wp2
     refine bodyPost_ret (results_list (rs := [.tmp 4, .cell 5 28, .tmp 6]) rfl (by simp) (.tmp (.cell aD 28 #[.slice cM bO.length cN, .slice cO bQ.length cP, .slice cT bS.length cU, .slice dF bV.length dG, .int .i64 aY] (0, 0) _ rfl (by (with_reducible repeat (first | refine blk_drewN ?_ _ | refine blk_drew ?_ | refine blk_alloc ?_ _)); refine blk_put (cs := #[.slice cM bO.length cN, .slice cO bQ.length cP, .slice cT bS.length cU, .slice dF bV.length dG, .int .i64 0]) ?_ 4 _ rfl; (with_reducible repeat (first | refine blk_drewN ?_ _ | refine blk_drew ?_ | refine blk_alloc ?_ _)); refine blk_put (cs := #[.slice cM bO.length cN, .slice cO bQ.length cP, .slice cT bS.length cU, .slice none 0 0, .int .i64 0]) ?_ 3 _ rfl; (with_reducible repeat (first | refine blk_drewN ?_ _ | refine blk_drew ?_ | refine blk_alloc ?_ _)); refine blk_put (cs := #[.slice cM bO.length cN, .slice cO bQ.length cP, .slice none 0 0, .slice none 0 0, .int .i64 0]) ?_ 2 _ rfl; (with_reducible repeat (first | refine blk_drewN ?_ _ | refine blk_drew ?_ | refine blk_alloc ?_ _)); refine blk_put (cs := #[.slice cM bO.length cN, .slice none 0 0, .slice none 0 0, .slice none 0 0, .int .i64 0]) ?_ 1 _ rfl; (with_reducible repeat (first | refine blk_drewN ?_ _ | refine blk_drew ?_ | refine blk_alloc ?_ _)); refine blk_put (cs := #[.slice none 0 0, .slice none 0 0, .slice none 0 0, .slice none 0 0, .int .i64 0]) ?_ 0 _ rfl; exact qB aC.out) Try.underlying28 rfl (by kernel_rfl) (.tmp .nil)))) rfl ?_
     exact ⟨_, _, _, _, by first | rfl | (simp [errW_none, errW_some] <;> rfl) | (simp [*, errW_none, errW_some] <;> rfl), by exact qR (Kd.R_mono (Kd.R_far (p := ⟨aD, 4, none⟩) (Kd.R_far (p := ⟨aD, 3, none⟩) (Kd.R_far (p := ⟨aD, 2, none⟩) (Kd.R_far (p := ⟨aD, 1, none⟩) (Kd.R_far (p := ⟨aD, 0, none⟩) (Kd.R_types bC.out aC.out (by decide)) (fun _ hk => hk.2) (.slice cM bO.length cN)) (fun _ hk => hk.2) (.slice cO bQ.length cP)) (fun _ hk => hk.2) (.slice cT bS.length cU)) (fun _ hk => hk.2) (.slice dF bV.length dG)) (fun _ hk => hk.2) (.int .i64 aY)) (fun _ hk => ⟨hk.1.2.1, ⟨hk.1.2.2.1, hk.1.2.2.2⟩⟩)), by exact qR (Kd.R_mono (Kd.R_far (p := ⟨aD, 4, none⟩) (Kd.R_far (p := ⟨aD, 3, none⟩) (Kd.R_far (p := ⟨aD, 2, none⟩) (Kd.R_far (p := ⟨aD, 1, none⟩) (Kd.R_far (p := ⟨aD, 0, none⟩) (Kd.R_types bD.out aC.out (by decide)) (fun _ hk => hk.2) (.slice cM bO.length cN)) (fun _ hk => hk.2) (.slice cO bQ.length cP)) (fun _ hk => hk.2) (.slice cT bS.length cU)) (fun _ hk => hk.2) (.slice dF bV.length dG)) (fun _ hk => hk.2) (.int .i64 aY)) (fun _ hk => ⟨hk.1.2.1, ⟨hk.1.2.2.1, hk.1.2.2.2⟩⟩)), by exact qR (Kd.R_mono (Kd.R_far (p := ⟨aD, 4, none⟩) (Kd.R_far (p := ⟨aD, 3, none⟩) (Kd.R_far (p := ⟨aD, 2, none⟩) (Kd.R_far (p := ⟨aD, 1, none⟩) (Kd.R_far (p := ⟨aD, 0, none⟩) (Kd.R_types bE.out aC.out (by decide)) (fun _ hk => hk.2) (.slice cM bO.length cN)) (fun _ hk => hk.2) (.slice cO bQ.length cP)) (fun _ hk => hk.2) (.slice cT bS.length cU)) (fun _ hk => hk.2) (.slice dF bV.length dG)) (fun _ hk => hk.2) (.int .i64 aY)) (fun _ hk => ⟨hk.1.2.1, ⟨hk.1.2.2.1, hk.1.2.2.2⟩⟩)), by exact qR (Kd.R_mono (Kd.R_far (p := ⟨aD, 4, none⟩) (Kd.R_far (p := ⟨aD, 3, none⟩) (Kd.R_far (p := ⟨aD, 2, none⟩) (Kd.R_far (p := ⟨aD, 1, none⟩) (Kd.R_far (p := ⟨aD, 0, none⟩) (Kd.R_types bF.out aC.out (by decide)) (fun _ hk => hk.2) (.slice cM bO.length cN)) (fun _ hk => hk.2) (.slice cO bQ.length cP)) (fun _ hk => hk.2) (.slice cT bS.length cU)) (fun _ hk => hk.2) (.slice dF bV.length dG)) (fun _ hk => hk.2) (.int .i64 aY)) (fun _ hk => ⟨hk.1.2.1, ⟨hk.1.2.2.1, hk.1.2.2.2⟩⟩)), by repeat (first | (with_reducible first | exact HB.out | apply below_alloc | apply pw_below_drewN | apply below_drew1 | refine below_set ?_ cD.out | refine below_set ?_ cE.out | refine below_set ?_ cQ.out | refine below_set ?_ cR.out) | exact HB.out)⟩
   rw [if_pos c18] at H
   have fM : decide (aJ < a1) = true := decide_eq_true c18
   clear c18
   replace H := Option.bind_eq_some_iff.mp H
   obtain ⟨⟨t480, t483, t486, t489, t492, t493⟩, A190, H⟩ := H
   replace H : (if t493 = 0 then (if bN = 0 then (planner_Best.j1 k1 bN aJ a1 aJ true aS aN (wrap64 (aJ + 1)) aT aU t474 t477 bO bQ bS bV aY t480 t483 t486 t489 t492) else (planner_Best.j1 k1 bN aJ a1 aJ (decide (t492 < aY)) aS aN (wrap64 (aJ + 1)) aT aU t474 t477 bO bQ bS bV aY t480 t483 t486 t489 t492)) else (planner_Best.j1 k1 bN aJ a1 aJ false aS aN (wrap64 (aJ + 1)) aT aU t474 t477 bO bQ bS bV aY t480 t483 t486 t489 t492)) = some (r1, r2, r3, r4, r5, r6, r7) := H
   have A19 := Aside0.mk A190
   clear A190
   have eK := Aside0.mk H
   clear H
   have kO := cF.out
   have kP := bZ.out
   have kQ := gM.out
   have kR := eJ.out
   have kS := cG.out
   have kT := cS.out
   have gP : wr.cell? ⟨aF, 0, none⟩ = some (.slice bH aS.length bI) := (blk_cell aB.out 0).trans rfl
   have gQ : wr.cell? ⟨aF, 1, none⟩ = some (.slice bJ aN.length bK) := (blk_cell aB.out 1).trans rfl
   have gR : wr.cell? ⟨aF, 2, none⟩ = some (.int .i64 dQ) := (blk_cell aB.out 2).trans rfl
   have gS : wr.cell? ⟨aF, 3, none⟩ = some (.int .i64 aT) := (blk_cell aB.out 3).trans rfl
   have gT : wr.cell? ⟨aF, 4, none⟩ = some (.int .i64 aU) := (blk_cell aB.out 4).trans rfl
   have gU := blk_frozen aB.out 0
   have gV := blk_frozen aB.out 1
   have gW := blk_frozen aB.out 2
   have gX := blk_frozen aB.out 3
   have gY := blk_frozen aB.out 4
   have kU := dD.out
   have kV := dC.out
   have kW := cH.out
   have kX := dE.out
   have gZ : wr.cell? ⟨cA, 0, none⟩ = some (.slice bR t474.length bP) := (blk_cell aW.out 0).trans rfl
   have hA : wr.cell? ⟨cA, 1, none⟩ = some (.int .i64 t477) := (blk_cell aW.out 1).trans rfl
   have hB := blk_frozen aW.out 0
   have hC := blk_frozen aW.out 1
   go_upto_region 15 with (first | ((with_reducible refine gate_callee (f := 35) rfl ?_); refine goesL_ (some 39) rfl rfl Try.func35 (by kernel_rfl) rfl #[.agg #[.slice bH aS.length bI, .slice bJ aN.length bK, .int .i64 (wrap64 (aJ + 1)), .int .i64 aT, .int .i64 aU], .func (.func 37) #[.pointer (some ⟨cA, 0, none⟩)] #[]] rfl (by (try simp only [List.map_toArray, List.map_cons, List.map_nil]); first | done | rfl | (simp only [List.length_drop, List.length_take]; rfl)) ?_; (with_reducible refine (PLANV.calls cA k1 _ _ aS _ _ aN (wrap64 (aJ + 1)) aT aU _ _ t474 t477 t480 t483 t486 t489 t492 t493 _ ?side1 ?side2 ?side3 ?side4 ?side5 ?side6 A19.out (by (with_reducible repeat (first | refine blk_drewN ?_ _ | refine blk_drew ?_ | refine blk_alloc ?_ _)); refine blk_far ?_ eJ.out _; exact qB aW.out)).mono ?_); (case side1 => exact Kd.C_below eE.out (qW HB.out)); (case side2 => exact eF.out); (case side3 => exact Kd.C_below dX.out (qW HB.out)); (case side4 => exact dY.out); (case side5 => refine (Kd.R_reads' (e := 3) (base := w.heap.size) (ok := fun k_ => (some k_ ≠ (bL : Value).ownBlock ∧ (some k_ ≠ (bG : Value).ownBlock ∧ (some k_ ≠ (bB : Value).ownBlock ∧ some k_ ≠ (aZ : Value).ownBlock)))) (n := t474.length) (c := bP) ?_).2.2; exact (qR (Kd.R_mono (Kd.R_far (p := ⟨aF, 2, none⟩) (Kd.R_types bA.out aB.out (by decide)) (fun _ hk => hk.2) (.int .i64 (wrap64 (aJ + 1)))) (fun _ h_ => h_.1)))); (case side6 => exact (Kd.R_reads' bA.out).2.1); rintro e w28 ⟨v481, v484, v487, v490, rfl, ho0, ho1, ho2, ho3, hb⟩; refine ⟨_, rfl, ?_⟩; have n0_ := Aside0.mk (Kd.R_mono (Kd.R_told (Kd.R_told (Kd.R_told (Kd.R_told (Kd.R_old (qR (Kd.R_mono (Kd.R_far (p := ⟨aF, 2, none⟩) (Kd.R_types bA.out aB.out (by decide)) (fun _ hk => hk.2) (.int .i64 (wrap64 (aJ + 1)))) (fun _ h_ => h_.1))) hb) (Kd.R_base ho0)) (Kd.R_base ho1)) (Kd.R_base ho2)) (Kd.R_base ho3)) (fun _ h_ => h_.1)); have n1_ := Aside0.mk (Kd.R_mono (Kd.R_told (Kd.R_told (Kd.R_told (Kd.R_told (Kd.R_old (qR (Kd.R_mono (Kd.R_far (p := ⟨aF, 2, none⟩) (Kd.R_types bC.out aB.out (by decide)) (fun _ hk => hk.2) (.int .i64 (wrap64 (aJ + 1)))) (fun _ h_ => h_.1))) hb) (Kd.R_base ho0)) (Kd.R_base ho1)) (Kd.R_base ho2)) (Kd.R_base ho3)) (fun _ h_ => h_.1)); have n2_ := Aside0.mk (Kd.R_mono (Kd.R_told (Kd.R_told (Kd.R_told (Kd.R_told (Kd.R_old (qR (Kd.R_mono (Kd.R_far (p := ⟨aF, 2, none⟩) (Kd.R_types bD.out aB.out (by decide)) (fun _ hk => hk.2) (.int .i64 (wrap64 (aJ + 1)))) (fun _ h_ => h_.1))) hb) (Kd.R_base ho0)) (Kd.R_base ho1)) (Kd.R_base ho2)) (Kd.R_base ho3)) (fun _ h_ => h_.1)); have n3_ := Aside0.mk (Kd.R_mono (Kd.R_told (Kd.R_told (Kd.R_told (Kd.R_told (Kd.R_old (qR (Kd.R_mono (Kd.R_far (p := ⟨aF, 2, none⟩) (Kd.R_types bE.out aB.out (by decide)) (fun _ hk => hk.2) (.int .i64 (wrap64 (aJ + 1)))) (fun _ h_ => h_.1))) hb) (Kd.R_base ho0)) (Kd.R_base ho1)) (Kd.R_base ho2)) (Kd.R_base ho3)) (fun _ h_ => h_.1)); have n4_ := Aside0.mk (Kd.R_mono (Kd.R_told (Kd.R_told (Kd.R_told (Kd.R_told (Kd.R_old (qR (Kd.R_mono (Kd.R_far (p := ⟨aF, 2, none⟩) (Kd.R_types bF.out aB.out (by decide)) (fun _ hk => hk.2) (.int .i64 (wrap64 (aJ + 1)))) (fun _ h_ => h_.1))) hb) (Kd.R_base ho0)) (Kd.R_base ho1)) (Kd.R_base ho2)) (Kd.R_base ho3)) (fun _ h_ => h_.1)); have n5_ := Aside0.mk (Kd.R_lower (Kd.R_new' (Kd.R_new' (Kd.R_new' (Kd.R_new' (Kd.R_new' ho0 (Kd.R_lt (qR (Kd.R_mono (Kd.R_far (p := ⟨aF, 2, none⟩) (Kd.R_types bA.out aB.out (by decide)) (fun _ hk => hk.2) (.int .i64 (wrap64 (aJ + 1)))) (fun _ h_ => h_.1))))) (Kd.R_lt (qR (Kd.R_mono (Kd.R_far (p := ⟨aF, 2, none⟩) (Kd.R_types bC.out aB.out (by decide)) (fun _ hk => hk.2) (.int .i64 (wrap64 (aJ + 1)))) (fun _ h_ => h_.1))))) (Kd.R_lt (qR (Kd.R_mono (Kd.R_far (p := ⟨aF, 2, none⟩) (Kd.R_types bD.out aB.out (by decide)) (fun _ hk => hk.2) (.int .i64 (wrap64 (aJ + 1)))) (fun _ h_ => h_.1))))) (Kd.R_lt (qR (Kd.R_mono (Kd.R_far (p := ⟨aF, 2, none⟩) (Kd.R_types bE.out aB.out (by decide)) (fun _ hk => hk.2) (.int .i64 (wrap64 (aJ + 1)))) (fun _ h_ => h_.1))))) (Kd.R_lt (qR (Kd.R_mono (Kd.R_far (p := ⟨aF, 2, none⟩) (Kd.R_types bF.out aB.out (by decide)) (fun _ hk => hk.2) (.int .i64 (wrap64 (aJ + 1)))) (fun _ h_ => h_.1))))) (below_size (qW HB.out))); have n6_ := Aside0.mk (Kd.R_lower (Kd.R_new' (Kd.R_new' (Kd.R_new' (Kd.R_new' (Kd.R_new' ho1 (Kd.R_lt (qR (Kd.R_mono (Kd.R_far (p := ⟨aF, 2, none⟩) (Kd.R_types bA.out aB.out (by decide)) (fun _ hk => hk.2) (.int .i64 (wrap64 (aJ + 1)))) (fun _ h_ => h_.1))))) (Kd.R_lt (qR (Kd.R_mono (Kd.R_far (p := ⟨aF, 2, none⟩) (Kd.R_types bC.out aB.out (by decide)) (fun _ hk => hk.2) (.int .i64 (wrap64 (aJ + 1)))) (fun _ h_ => h_.1))))) (Kd.R_lt (qR (Kd.R_mono (Kd.R_far (p := ⟨aF, 2, none⟩) (Kd.R_types bD.out aB.out (by decide)) (fun _ hk => hk.2) (.int .i64 (wrap64 (aJ + 1)))) (fun _ h_ => h_.1))))) (Kd.R_lt (qR (Kd.R_mono (Kd.R_far (p := ⟨aF, 2, none⟩) (Kd.R_types bE.out aB.out (by decide)) (fun _ hk => hk.2) (.int .i64 (wrap64 (aJ + 1)))) (fun _ h_ => h_.1))))) (Kd.R_lt (qR (Kd.R_mono (Kd.R_far (p := ⟨aF, 2, none⟩) (Kd.R_types bF.out aB.out (by decide)) (fun _ hk => hk.2) (.int .i64 (wrap64 (aJ + 1)))) (fun _ h_ => h_.1))))) (below_size (qW HB.out))); have n7_ := Aside0.mk (Kd.R_lower (Kd.R_new' (Kd.R_new' (Kd.R_new' (Kd.R_new' (Kd.R_new' ho2 (Kd.R_lt (qR (Kd.R_mono (Kd.R_far (p := ⟨aF, 2, none⟩) (Kd.R_types bA.out aB.out (by decide)) (fun _ hk => hk.2) (.int .i64 (wrap64 (aJ + 1)))) (fun _ h_ => h_.1))))) (Kd.R_lt (qR (Kd.R_mono (Kd.R_far (p := ⟨aF, 2, none⟩) (Kd.R_types bC.out aB.out (by decide)) (fun _ hk => hk.2) (.int .i64 (wrap64 (aJ + 1)))) (fun _ h_ => h_.1))))) (Kd.R_lt (qR (Kd.R_mono (Kd.R_far (p := ⟨aF, 2, none⟩) (Kd.R_types bD.out aB.out (by decide)) (fun _ hk => hk.2) (.int .i64 (wrap64 (aJ + 1)))) (fun _ h_ => h_.1))))) (Kd.R_lt (qR (Kd.R_mono (Kd.R_far (p := ⟨aF, 2, none⟩) (Kd.R_types bE.out aB.out (by decide)) (fun _ hk => hk.2) (.int .i64 (wrap64 (aJ + 1)))) (fun _ h_ => h_.1))))) (Kd.R_lt (qR (Kd.R_mono (Kd.R_far (p := ⟨aF, 2, none⟩) (Kd.R_types bF.out aB.out (by decide)) (fun _ hk => hk.2) (.int .i64 (wrap64 (aJ + 1)))) (fun _ h_ => h_.1))))) (below_size (qW HB.out))); have n8_ := Aside0.mk (Kd.R_lower (Kd.R_new' (Kd.R_new' (Kd.R_new' (Kd.R_new' (Kd.R_new' ho3 (Kd.R_lt (qR (Kd.R_mono (Kd.R_far (p := ⟨aF, 2, none⟩) (Kd.R_types bA.out aB.out (by decide)) (fun _ hk => hk.2) (.int .i64 (wrap64 (aJ + 1)))) (fun _ h_ => h_.1))))) (Kd.R_lt (qR (Kd.R_mono (Kd.R_far (p := ⟨aF, 2, none⟩) (Kd.R_types bC.out aB.out (by decide)) (fun _ hk => hk.2) (.int .i64 (wrap64 (aJ + 1)))) (fun _ h_ => h_.1))))) (Kd.R_lt (qR (Kd.R_mono (Kd.R_far (p := ⟨aF, 2, none⟩) (Kd.R_types bD.out aB.out (by decide)) (fun _ hk => hk.2) (.int .i64 (wrap64 (aJ + 1)))) (fun _ h_ => h_.1))))) (Kd.R_lt (qR (Kd.R_mono (Kd.R_far (p := ⟨aF, 2, none⟩) (Kd.R_types bE.out aB.out (by decide)) (fun _ hk => hk.2) (.int .i64 (wrap64 (aJ + 1)))) (fun _ h_ => h_.1))))) (Kd.R_lt (qR (Kd.R_mono (Kd.R_far (p := ⟨aF, 2, none⟩) (Kd.R_types bF.out aB.out (by decide)) (fun _ hk => hk.2) (.int .i64 (wrap64 (aJ + 1)))) (fun _ h_ => h_.1))))) (below_size (qW HB.out))); have n9_ := Aside0.mk (blk_below (g := aF) (o := .cells #[.slice bH aS.length bI, .slice bJ aN.length bK, .int .i64 (wrap64 (aJ + 1)), .int .i64 aT, .int .i64 aU] 24 (0, 0)) (by (with_reducible repeat (first | refine blk_drewN ?_ _ | refine blk_drew ?_ | refine blk_alloc ?_ _)); refine blk_put (cs := #[.slice bH aS.length bI, .slice bJ aN.length bK, .int .i64 dQ, .int .i64 aT, .int .i64 aU]) ?_ 2 _ rfl; exact qB aB.out) hb); have cI := Aside0.mk (blk_below (g := aD) (o := .cells #[.slice none 0 0, .slice none 0 0, .slice none 0 0, .slice none 0 0, .int .i64 0] 28 (0, 0)) (by (with_reducible repeat (first | refine blk_drewN ?_ _ | refine blk_drew ?_ | refine blk_alloc ?_ _)); refine blk_far ?_ bZ.out _; exact qB aC.out) hb); have cJ := Aside0.mk (blk_below (g := cA) (o := .cells #[.slice bR t474.length bP, .int .i64 t477] 91 (0, 0)) (by (with_reducible repeat (first | refine blk_drewN ?_ _ | refine blk_drew ?_ | refine blk_alloc ?_ _)); refine blk_far ?_ eJ.out _; exact qB aW.out) hb); have cK := Aside0.mk (blk_below (g := aE) (o := .cells #[bL, bG, bB, aZ, .int .i64 aY] 28 (0, 0)) (by (with_reducible repeat (first | refine blk_drewN ?_ _ | refine blk_drew ?_ | refine blk_alloc ?_ _)); refine blk_far ?_ cS.out _; exact qB aM.out) hb); have cL := Aside0.mk (below_step (qW HB.out) hb); clear bA bC bD bE bF aB aC aW aM HB; have bA := n0_; have bC := n1_; have bD := n2_; have bE := n3_; have bF := n4_; have dH := n5_; have dI := n6_; have dJ := n7_; have dK := n8_; have aB := n9_; have aC := cI; have aW := cJ; have aM := cK; have HB := cL; clear n0_ n1_ n2_ n3_ n4_ n5_ n6_ n7_ n8_ n9_ cI cJ cK cL; (try clear hb); (try clear hb2); (try clear hk); (try clear hi); (try clear ho0); (try clear ho1); (try clear ho2); (try clear ho3)) | ((with_reducible refine gate_dst (N := 12) rfl ?_); refine box_event ?hg (N := 12) ?hd (cs := #[.slice none 0 0, .slice none 0 0, .slice none 0 0, .slice none 0 0, .int .i64 0]) (t := 28) ?hr ?_; (case hd => rfl); (case hg => rfl); (case hr => first | (go_simp; done) | (go_simp; rfl)); intro aA hg w29 hbox hb; have n0_ := Aside0.mk (Kd.R_below (qR bA.out) hb); have n1_ := Aside0.mk (Kd.R_below (qR bC.out) hb); have n2_ := Aside0.mk (Kd.R_below (qR bD.out) hb); have n3_ := Aside0.mk (Kd.R_below (qR bE.out) hb); have n4_ := Aside0.mk (Kd.R_below (qR bF.out) hb); have n5_ := Aside0.mk (Kd.R_below (qR dH.out) hb); have n6_ := Aside0.mk (Kd.R_below (qR dI.out) hb); have n7_ := Aside0.mk (Kd.R_below (qR dJ.out) hb); have n8_ := Aside0.mk (Kd.R_below (qR dK.out) hb); have n9_ := Aside0.mk (blk_below (qB aB.out) hb); have cI := Aside0.mk (blk_below (qB aC.out) hb); have cJ := Aside0.mk (blk_below (qB aW.out) hb); have cK := Aside0.mk (blk_below (qB aM.out) hb); have cL := Aside0.mk (below_step (qW HB.out) hb); have dR := Aside0.mk (hbox); have fR := Aside0.mk ((by rw [hg]; exact (below_size (qW HB.out)) : w.heap.size ≤ aA)); have fS := Aside0.mk ((by rw [hg]; exact (below_size (qW HB.out)) : w.heap.size ≤ aA)); have fT := Aside0.mk ((by rw [hg]; exact Nat.ne_of_lt (blk_lt (qB aB.out)) : aF ≠ aA)); have fU := Aside0.mk ((by rw [hg]; exact Nat.ne_of_gt (blk_lt (qB aB.out)) : aA ≠ aF)); have fV := Aside0.mk ((by rw [hg]; exact Nat.ne_of_lt (blk_lt (qB aC.out)) : aD ≠ aA)); have fW := Aside0.mk ((by rw [hg]; exact Nat.ne_of_gt (blk_lt (qB aC.out)) : aA ≠ aD)); have fX := Aside0.mk ((by rw [hg]; exact Nat.ne_of_lt (blk_lt (qB aW.out)) : cA ≠ aA)); have fY := Aside0.mk ((by rw [hg]; exact Nat.ne_of_gt (blk_lt (qB aW.out)) : aA ≠ cA)); have fZ := Aside0.mk ((by rw [hg]; exact Nat.ne_of_lt (blk_lt (qB aM.out)) : aE ≠ aA)); have gA := Aside0.mk ((by rw [hg]; exact Nat.ne_of_gt (blk_lt (qB aM.out)) : aA ≠ aE)); clear bA bC bD bE bF dH dI dJ dK aB aC aW aM HB; have bA := n0_; have bC := n1_; have bD := n2_; have bE := n3_; have bF := n4_; have dH := n5_; have dI := n6_; have dJ := n7_; have dK := n8_; have aB := n9_; have aC := cI; have aW := cJ; have aM := cK; have HB := cL; have aG := dR; have kY := fR; have dS := fS; have bW := fT; have gB := fU; have bX := fV; have gC := fW; have bY := fX; have gD := fY; have bM := fZ; have aX := gA; clear n0_ n1_ n2_ n3_ n4_ n5_ n6_ n7_ n8_ n9_ cI cJ cK cL dR fR fS fT fU fV fW fX fY fZ gA hb hbox hg; obtain ⟨aH, aI, hD⟩ := Kd.R_slice dH.out; subst hD; have kZ := gB.out; have lA := bW.out; have lB := gC.out; have lC := bX.out; have lD := gD.out; have lE := bY.out; have lF := aX.out; have lG := bM.out; have hE : w29.cell? ⟨aA, 0, none⟩ = some (.slice none 0 0) := (blk_cell aG.out 0).trans rfl; have hF : w29.cell? ⟨aA, 1, none⟩ = some (.slice none 0 0) := (blk_cell aG.out 1).trans rfl; have hG : w29.cell? ⟨aA, 2, none⟩ = some (.slice none 0 0) := (blk_cell aG.out 2).trans rfl; have hH : w29.cell? ⟨aA, 3, none⟩ = some (.slice none 0 0) := (blk_cell aG.out 3).trans rfl; have hI : w29.cell? ⟨aA, 4, none⟩ = some (.int .i64 0) := (blk_cell aG.out 4).trans rfl; have hJ := blk_frozen aG.out 0; have hL := blk_frozen aG.out 1; have hM := blk_frozen aG.out 2; have hN := blk_frozen aG.out 3; have hO := blk_frozen aG.out 4; obtain ⟨aK, aL, hP⟩ := Kd.R_slice dI.out; subst hP; obtain ⟨aO, aP, hQ⟩ := Kd.R_slice dJ.out; subst hQ; obtain ⟨aQ, aR, hR⟩ := Kd.R_slice dK.out; subst hR))
   (try simp only [Act.put, List.setIfInBounds_toArray, List.set_cons_zero, List.set_cons_succ])
   go_cut [54] (fun v54 wc => ∃ (kq : Nat) (eA : Bool), v54 = .bool eA ∧ Aside0 (planner_Best.j1 kq bN aJ a1 aJ eA aS aN (wrap64 (aJ + 1)) aT aU t474 t477 bO bQ bS bV aY t480 t483 t486 t489 t492 = some (r1, r2, r3, r4, r5, r6, r7)) ∧ Aside0 (kq ≤ k1) ∧ Aside0 (Kd.R (Kd.int .i64) 3 wc w.heap.size (fun k_ => some k_ ≠ (bL : Value).ownBlock ∧ some k_ ≠ (bG : Value).ownBlock ∧ some k_ ≠ (bB : Value).ownBlock ∧ some k_ ≠ (aZ : Value).ownBlock ∧ some k_ ≠ ((.slice aH t480.length aI) : Value).ownBlock ∧ some k_ ≠ ((.slice aK t483.length aL) : Value).ownBlock ∧ some k_ ≠ ((.slice aO t486.length aP) : Value).ownBlock ∧ some k_ ≠ ((.slice aQ t489.length aR) : Value).ownBlock) (.slice bR t474.length bP) t474) ∧ Aside0 (Kd.R (Kd.int .i64) 3 wc w.heap.size (fun k_ => some k_ ≠ ((.slice bR t474.length bP) : Value).ownBlock ∧ some k_ ≠ (bG : Value).ownBlock ∧ some k_ ≠ (bB : Value).ownBlock ∧ some k_ ≠ (aZ : Value).ownBlock ∧ some k_ ≠ ((.slice aH t480.length aI) : Value).ownBlock ∧ some k_ ≠ ((.slice aK t483.length aL) : Value).ownBlock ∧ some k_ ≠ ((.slice aO t486.length aP) : Value).ownBlock ∧ some k_ ≠ ((.slice aQ t489.length aR) : Value).ownBlock) bL bO) ∧ Aside0 (Kd.R (Kd.int .i64) 3 wc w.heap.size (fun k_ => some k_ ≠ ((.slice bR t474.length bP) : Value).ownBlock ∧ some k_ ≠ (bL : Value).ownBlock ∧ some k_ ≠ (bB : Value).ownBlock ∧ some k_ ≠ (aZ : Value).ownBlock ∧ some k_ ≠ ((.slice aH t480.length aI) : Value).ownBlock ∧ some k_ ≠ ((.slice aK t483.length aL) : Value).ownBlock ∧ some k_ ≠ ((.slice aO t486.length aP) : Value).ownBlock ∧ some k_ ≠ ((.slice aQ t489.length aR) : Value).ownBlock) bG bQ) ∧ Aside0 (Kd.R (Kd.int .i64) 3 wc w.heap.size (fun k_ => some k_ ≠ ((.slice bR t474.length bP) : Value).ownBlock ∧ some k_ ≠ (bL : Value).ownBlock ∧ some k_ ≠ (bG : Value).ownBlock ∧ some k_ ≠ (aZ : Value).ownBlock ∧ some k_ ≠ ((.slice aH t480.length aI) : Value).ownBlock ∧ some k_ ≠ ((.slice aK t483.length aL) : Value).ownBlock ∧ some k_ ≠ ((.slice aO t486.length aP) : Value).ownBlock ∧ some k_ ≠ ((.slice aQ t489.length aR) : Value).ownBlock) bB bS) ∧ Aside0 (Kd.R (Kd.int .i64) 3 wc w.heap.size (fun k_ => some k_ ≠ ((.slice bR t474.length bP) : Value).ownBlock ∧ some k_ ≠ (bL : Value).ownBlock ∧ some k_ ≠ (bG : Value).ownBlock ∧ some k_ ≠ (bB : Value).ownBlock ∧ some k_ ≠ ((.slice aH t480.length aI) : Value).ownBlock ∧ some k_ ≠ ((.slice aK t483.length aL) : Value).ownBlock ∧ some k_ ≠ ((.slice aO t486.length aP) : Value).ownBlock ∧ some k_ ≠ ((.slice aQ t489.length aR) : Value).ownBlock) aZ bV) ∧ Aside0 (Kd.R (Kd.int .i64) 3 wc w.heap.size (fun k_ => some k_ ≠ ((.slice bR t474.length bP) : Value).ownBlock ∧ some k_ ≠ (bL : Value).ownBlock ∧ some k_ ≠ (bG : Value).ownBlock ∧ some k_ ≠ (bB : Value).ownBlock ∧ some k_ ≠ (aZ : Value).ownBlock ∧ some k_ ≠ ((.slice aK t483.length aL) : Value).ownBlock ∧ some k_ ≠ ((.slice aO t486.length aP) : Value).ownBlock ∧ some k_ ≠ ((.slice aQ t489.length aR) : Value).ownBlock) (.slice aH t480.length aI) t480) ∧ Aside0 (Kd.R (Kd.int .i64) 3 wc w.heap.size (fun k_ => some k_ ≠ ((.slice bR t474.length bP) : Value).ownBlock ∧ some k_ ≠ (bL : Value).ownBlock ∧ some k_ ≠ (bG : Value).ownBlock ∧ some k_ ≠ (bB : Value).ownBlock ∧ some k_ ≠ (aZ : Value).ownBlock ∧ some k_ ≠ ((.slice aH t480.length aI) : Value).ownBlock ∧ some k_ ≠ ((.slice aO t486.length aP) : Value).ownBlock ∧ some k_ ≠ ((.slice aQ t489.length aR) : Value).ownBlock) (.slice aK t483.length aL) t483) ∧ Aside0 (Kd.R (Kd.int .i64) 3 wc w.heap.size (fun k_ => some k_ ≠ ((.slice bR t474.length bP) : Value).ownBlock ∧ some k_ ≠ (bL : Value).ownBlock ∧ some k_ ≠ (bG : Value).ownBlock ∧ some k_ ≠ (bB : Value).ownBlock ∧ some k_ ≠ (aZ : Value).ownBlock ∧ some k_ ≠ ((.slice aH t480.length aI) : Value).ownBlock ∧ some k_ ≠ ((.slice aK t483.length aL) : Value).ownBlock ∧ some k_ ≠ ((.slice aQ t489.length aR) : Value).ownBlock) (.slice aO t486.length aP) t486) ∧ Aside0 (Kd.R (Kd.int .i64) 3 wc w.heap.size (fun k_ => some k_ ≠ ((.slice bR t474.length bP) : Value).ownBlock ∧ some k_ ≠ (bL : Value).ownBlock ∧ some k_ ≠ (bG : Value).ownBlock ∧ some k_ ≠ (bB : Value).ownBlock ∧ some k_ ≠ (aZ : Value).ownBlock ∧ some k_ ≠ ((.slice aH t480.length aI) : Value).ownBlock ∧ some k_ ≠ ((.slice aK t483.length aL) : Value).ownBlock ∧ some k_ ≠ ((.slice aO t486.length aP) : Value).ownBlock) (.slice aQ t489.length aR) t489) ∧ Aside0 (wc.heap[aF]? = some (.cells #[(.slice bH aS.length bI), (.slice bJ aN.length bK), .int .i64 (wrap64 (aJ + 1)), .int .i64 aT, .int .i64 aU] 24 (0, 0))) ∧ Aside0 (wc.heap[aD]? = some (.cells #[(.slice none 0 0), (.slice none 0 0), (.slice none 0 0), (.slice none 0 0), .int .i64 0] 28 (0, 0))) ∧ Aside0 (wc.heap[cA]? = some (.cells #[(.slice bR t474.length bP), .int .i64 t477] 91 (0, 0))) ∧ Aside0 (wc.heap[aE]? = some (.cells #[bL, bG, bB, aZ, .int .i64 aY] 28 (0, 0))) ∧ Aside0 (wc.heap[aA]? = some (.cells #[(.slice aH t480.length aI), (.slice aK t483.length aL), (.slice aO t486.length aP), (.slice aQ t489.length aR), .int .i64 t492] 28 (0, 0))) ∧ Aside0 (Below w.heap.size w wc))
   case first =>
    have H := eK.out
    clear eK
    by_cases c39 : t493 = 0
    case neg =>
     rw [if_neg c39] at H
     have dP : (t493 == 0) = false := beq_eq_false_iff_ne.mpr c39
     have gE : (t493 != 0) = true := bne_iff_ne.mpr c39
     (first | rw [dP] | (simp only [i64_w, i32_w]; rw [dP]) | skip)
     have H' := Aside0.mk H
     clear H
     go_wp2
     go_meet
     case rel => exact ⟨_, (false), (by first | rfl | (simp; done) | (simp [*]; done)), H', ⟨by have := HK1.out; first | omega | exact Nat.le_refl _⟩, ⟨by exact qR (Kd.R_mono (Kd.R_far (p := ⟨aA, 4, none⟩) (Kd.R_far (p := ⟨aA, 3, none⟩) (Kd.R_far (p := ⟨aA, 2, none⟩) (Kd.R_far (p := ⟨aA, 1, none⟩) (Kd.R_far (p := ⟨aA, 0, none⟩) (Kd.R_types bA.out aG.out (by decide)) (fun _ hk => hk.2) (.slice aH t480.length aI)) (fun _ hk => hk.2) (.slice aK t483.length aL)) (fun _ hk => hk.2) (.slice aO t486.length aP)) (fun _ hk => hk.2) (.slice aQ t489.length aR)) (fun _ hk => hk.2) (.int .i64 t492)) (fun _ hk => ⟨hk.1.1.1.1.1.1, ⟨hk.1.1.1.1.1.2.1, ⟨hk.1.1.1.1.1.2.2.1, ⟨hk.1.1.1.1.1.2.2.2, ⟨hk.1.1.1.1.2, ⟨hk.1.1.1.2, ⟨hk.1.1.2, hk.1.2⟩⟩⟩⟩⟩⟩⟩))⟩, ⟨by exact qR (Kd.R_mono (Kd.R_far (p := ⟨aA, 4, none⟩) (Kd.R_far (p := ⟨aA, 3, none⟩) (Kd.R_far (p := ⟨aA, 2, none⟩) (Kd.R_far (p := ⟨aA, 1, none⟩) (Kd.R_far (p := ⟨aA, 0, none⟩) (Kd.R_types bC.out aG.out (by decide)) (fun _ hk => hk.2) (.slice aH t480.length aI)) (fun _ hk => hk.2) (.slice aK t483.length aL)) (fun _ hk => hk.2) (.slice aO t486.length aP)) (fun _ hk => hk.2) (.slice aQ t489.length aR)) (fun _ hk => hk.2) (.int .i64 t492)) (fun _ hk => ⟨hk.1.1.1.1.1.1, ⟨hk.1.1.1.1.1.2.1, ⟨hk.1.1.1.1.1.2.2.1, ⟨hk.1.1.1.1.1.2.2.2, ⟨hk.1.1.1.1.2, ⟨hk.1.1.1.2, ⟨hk.1.1.2, hk.1.2⟩⟩⟩⟩⟩⟩⟩))⟩, ⟨by exact qR (Kd.R_mono (Kd.R_far (p := ⟨aA, 4, none⟩) (Kd.R_far (p := ⟨aA, 3, none⟩) (Kd.R_far (p := ⟨aA, 2, none⟩) (Kd.R_far (p := ⟨aA, 1, none⟩) (Kd.R_far (p := ⟨aA, 0, none⟩) (Kd.R_types bD.out aG.out (by decide)) (fun _ hk => hk.2) (.slice aH t480.length aI)) (fun _ hk => hk.2) (.slice aK t483.length aL)) (fun _ hk => hk.2) (.slice aO t486.length aP)) (fun _ hk => hk.2) (.slice aQ t489.length aR)) (fun _ hk => hk.2) (.int .i64 t492)) (fun _ hk => ⟨hk.1.1.1.1.1.1, ⟨hk.1.1.1.1.1.2.1, ⟨hk.1.1.1.1.1.2.2.1, ⟨hk.1.1.1.1.1.2.2.2, ⟨hk.1.1.1.1.2, ⟨hk.1.1.1.2, ⟨hk.1.1.2, hk.1.2⟩⟩⟩⟩⟩⟩⟩))⟩, ⟨by exact qR (Kd.R_mono (Kd.R_far (p := ⟨aA, 4, none⟩) (Kd.R_far (p := ⟨aA, 3, none⟩) (Kd.R_far (p := ⟨aA, 2, none⟩) (Kd.R_far (p := ⟨aA, 1, none⟩) (Kd.R_far (p := ⟨aA, 0, none⟩) (Kd.R_types bE.out aG.out (by decide)) (fun _ hk => hk.2) (.slice aH t480.length aI)) (fun _ hk => hk.2) (.slice aK t483.length aL)) (fun _ hk => hk.2) (.slice aO t486.length aP)) (fun _ hk => hk.2) (.slice aQ t489.length aR)) (fun _ hk => hk.2) (.int .i64 t492)) (fun _ hk => ⟨hk.1.1.1.1.1.1, ⟨hk.1.1.1.1.1.2.1, ⟨hk.1.1.1.1.1.2.2.1, ⟨hk.1.1.1.1.1.2.2.2, ⟨hk.1.1.1.1.2, ⟨hk.1.1.1.2, ⟨hk.1.1.2, hk.1.2⟩⟩⟩⟩⟩⟩⟩))⟩, ⟨by exact qR (Kd.R_mono (Kd.R_far (p := ⟨aA, 4, none⟩) (Kd.R_far (p := ⟨aA, 3, none⟩) (Kd.R_far (p := ⟨aA, 2, none⟩) (Kd.R_far (p := ⟨aA, 1, none⟩) (Kd.R_far (p := ⟨aA, 0, none⟩) (Kd.R_types bF.out aG.out (by decide)) (fun _ hk => hk.2) (.slice aH t480.length aI)) (fun _ hk => hk.2) (.slice aK t483.length aL)) (fun _ hk => hk.2) (.slice aO t486.length aP)) (fun _ hk => hk.2) (.slice aQ t489.length aR)) (fun _ hk => hk.2) (.int .i64 t492)) (fun _ hk => ⟨hk.1.1.1.1.1.1, ⟨hk.1.1.1.1.1.2.1, ⟨hk.1.1.1.1.1.2.2.1, ⟨hk.1.1.1.1.1.2.2.2, ⟨hk.1.1.1.1.2, ⟨hk.1.1.1.2, ⟨hk.1.1.2, hk.1.2⟩⟩⟩⟩⟩⟩⟩))⟩, ⟨by exact qR (Kd.R_mono (Kd.R_far (p := ⟨aA, 4, none⟩) (Kd.R_far (p := ⟨aA, 3, none⟩) (Kd.R_far (p := ⟨aA, 2, none⟩) (Kd.R_far (p := ⟨aA, 1, none⟩) (Kd.R_far (p := ⟨aA, 0, none⟩) (Kd.R_types dH.out aG.out (by decide)) (fun _ hk => hk.2) (.slice aH t480.length aI)) (fun _ hk => hk.2) (.slice aK t483.length aL)) (fun _ hk => hk.2) (.slice aO t486.length aP)) (fun _ hk => hk.2) (.slice aQ t489.length aR)) (fun _ hk => hk.2) (.int .i64 t492)) (fun _ hk => ⟨hk.1.1.1.1.1.2, ⟨hk.1.1.1.1.2, ⟨hk.1.1.1.2, ⟨hk.1.1.2, ⟨hk.1.2, ⟨hk.1.1.1.1.1.1.1, ⟨hk.1.1.1.1.1.1.2.1, hk.1.1.1.1.1.1.2.2⟩⟩⟩⟩⟩⟩⟩))⟩, ⟨by exact qR (Kd.R_mono (Kd.R_far (p := ⟨aA, 4, none⟩) (Kd.R_far (p := ⟨aA, 3, none⟩) (Kd.R_far (p := ⟨aA, 2, none⟩) (Kd.R_far (p := ⟨aA, 1, none⟩) (Kd.R_far (p := ⟨aA, 0, none⟩) (Kd.R_types dI.out aG.out (by decide)) (fun _ hk => hk.2) (.slice aH t480.length aI)) (fun _ hk => hk.2) (.slice aK t483.length aL)) (fun _ hk => hk.2) (.slice aO t486.length aP)) (fun _ hk => hk.2) (.slice aQ t489.length aR)) (fun _ hk => hk.2) (.int .i64 t492)) (fun _ hk => ⟨hk.1.1.1.1.1.2, ⟨hk.1.1.1.1.2, ⟨hk.1.1.1.2, ⟨hk.1.1.2, ⟨hk.1.2, ⟨hk.1.1.1.1.1.1.1, ⟨hk.1.1.1.1.1.1.2.1, hk.1.1.1.1.1.1.2.2⟩⟩⟩⟩⟩⟩⟩))⟩, ⟨by exact qR (Kd.R_mono (Kd.R_far (p := ⟨aA, 4, none⟩) (Kd.R_far (p := ⟨aA, 3, none⟩) (Kd.R_far (p := ⟨aA, 2, none⟩) (Kd.R_far (p := ⟨aA, 1, none⟩) (Kd.R_far (p := ⟨aA, 0, none⟩) (Kd.R_types dJ.out aG.out (by decide)) (fun _ hk => hk.2) (.slice aH t480.length aI)) (fun _ hk => hk.2) (.slice aK t483.length aL)) (fun _ hk => hk.2) (.slice aO t486.length aP)) (fun _ hk => hk.2) (.slice aQ t489.length aR)) (fun _ hk => hk.2) (.int .i64 t492)) (fun _ hk => ⟨hk.1.1.1.1.1.2, ⟨hk.1.1.1.1.2, ⟨hk.1.1.1.2, ⟨hk.1.1.2, ⟨hk.1.2, ⟨hk.1.1.1.1.1.1.1, ⟨hk.1.1.1.1.1.1.2.1, hk.1.1.1.1.1.1.2.2⟩⟩⟩⟩⟩⟩⟩))⟩, ⟨by exact qR (Kd.R_mono (Kd.R_far (p := ⟨aA, 4, none⟩) (Kd.R_far (p := ⟨aA, 3, none⟩) (Kd.R_far (p := ⟨aA, 2, none⟩) (Kd.R_far (p := ⟨aA, 1, none⟩) (Kd.R_far (p := ⟨aA, 0, none⟩) (Kd.R_types dK.out aG.out (by decide)) (fun _ hk => hk.2) (.slice aH t480.length aI)) (fun _ hk => hk.2) (.slice aK t483.length aL)) (fun _ hk => hk.2) (.slice aO t486.length aP)) (fun _ hk => hk.2) (.slice aQ t489.length aR)) (fun _ hk => hk.2) (.int .i64 t492)) (fun _ hk => ⟨hk.1.1.1.1.1.2, ⟨hk.1.1.1.1.2, ⟨hk.1.1.1.2, ⟨hk.1.1.2, ⟨hk.1.2, ⟨hk.1.1.1.1.1.1.1, ⟨hk.1.1.1.1.1.1.2.1, hk.1.1.1.1.1.1.2.2⟩⟩⟩⟩⟩⟩⟩))⟩, ⟨by (with_reducible repeat (first | refine blk_drewN ?_ _ | refine blk_drew ?_ | refine blk_alloc ?_ _)); refine blk_far ?_ bW.out _; (with_reducible repeat (first | refine blk_drewN ?_ _ | refine blk_drew ?_ | refine blk_alloc ?_ _)); refine blk_far ?_ bW.out _; (with_reducible repeat (first | refine blk_drewN ?_ _ | refine blk_drew ?_ | refine blk_alloc ?_ _)); refine blk_far ?_ bW.out _; (with_reducible repeat (first | refine blk_drewN ?_ _ | refine blk_drew ?_ | refine blk_alloc ?_ _)); refine blk_far ?_ bW.out _; (with_reducible repeat (first | refine blk_drewN ?_ _ | refine blk_drew ?_ | refine blk_alloc ?_ _)); refine blk_far ?_ bW.out _; exact qB aB.out⟩, ⟨by (with_reducible repeat (first | refine blk_drewN ?_ _ | refine blk_drew ?_ | refine blk_alloc ?_ _)); refine blk_far ?_ bX.out _; (with_reducible repeat (first | refine blk_drewN ?_ _ | refine blk_drew ?_ | refine blk_alloc ?_ _)); refine blk_far ?_ bX.out _; (with_reducible repeat (first | refine blk_drewN ?_ _ | refine blk_drew ?_ | refine blk_alloc ?_ _)); refine blk_far ?_ bX.out _; (with_reducible repeat (first | refine blk_drewN ?_ _ | refine blk_drew ?_ | refine blk_alloc ?_ _)); refine blk_far ?_ bX.out _; (with_reducible repeat (first | refine blk_drewN ?_ _ | refine blk_drew ?_ | refine blk_alloc ?_ _)); refine blk_far ?_ bX.out _; exact qB aC.out⟩, ⟨by (with_reducible repeat (first | refine blk_drewN ?_ _ | refine blk_drew ?_ | refine blk_alloc ?_ _)); refine blk_far ?_ bY.out _; (with_reducible repeat (first | refine blk_drewN ?_ _ | refine blk_drew ?_ | refine blk_alloc ?_ _)); refine blk_far ?_ bY.out _; (with_reducible repeat (first | refine blk_drewN ?_ _ | refine blk_drew ?_ | refine blk_alloc ?_ _)); refine blk_far ?_ bY.out _; (with_reducible repeat (first | refine blk_drewN ?_ _ | refine blk_drew ?_ | refine blk_alloc ?_ _)); refine blk_far ?_ bY.out _; (with_reducible repeat (first | refine blk_drewN ?_ _ | refine blk_drew ?_ | refine blk_alloc ?_ _)); refine blk_far ?_ bY.out _; exact qB aW.out⟩, ⟨by (with_reducible repeat (first | refine blk_drewN ?_ _ | refine blk_drew ?_ | refine blk_alloc ?_ _)); refine blk_far ?_ bM.out _; (with_reducible repeat (first | refine blk_drewN ?_ _ | refine blk_drew ?_ | refine blk_alloc ?_ _)); refine blk_far ?_ bM.out _; (with_reducible repeat (first | refine blk_drewN ?_ _ | refine blk_drew ?_ | refine blk_alloc ?_ _)); refine blk_far ?_ bM.out _; (with_reducible repeat (first | refine blk_drewN ?_ _ | refine blk_drew ?_ | refine blk_alloc ?_ _)); refine blk_far ?_ bM.out _; (with_reducible repeat (first | refine blk_drewN ?_ _ | refine blk_drew ?_ | refine blk_alloc ?_ _)); refine blk_far ?_ bM.out _; exact qB aM.out⟩, ⟨by (with_reducible repeat (first | refine blk_drewN ?_ _ | refine blk_drew ?_ | refine blk_alloc ?_ _)); refine blk_put (cs := #[.slice aH t480.length aI, .slice aK t483.length aL, .slice aO t486.length aP, .slice aQ t489.length aR, .int .i64 0]) ?_ 4 _ rfl; (with_reducible repeat (first | refine blk_drewN ?_ _ | refine blk_drew ?_ | refine blk_alloc ?_ _)); refine blk_put (cs := #[.slice aH t480.length aI, .slice aK t483.length aL, .slice aO t486.length aP, .slice none 0 0, .int .i64 0]) ?_ 3 _ rfl; (with_reducible repeat (first | refine blk_drewN ?_ _ | refine blk_drew ?_ | refine blk_alloc ?_ _)); refine blk_put (cs := #[.slice aH t480.length aI, .slice aK t483.length aL, .slice none 0 0, .slice none 0 0, .int .i64 0]) ?_ 2 _ rfl; (with_reducible repeat (first | refine blk_drewN ?_ _ | refine blk_drew ?_ | refine blk_alloc ?_ _)); refine blk_put (cs := #[.slice aH t480.length aI, .slice none 0 0, .slice none 0 0, .slice none 0 0, .int .i64 0]) ?_ 1 _ rfl; (with_reducible repeat (first | refine blk_drewN ?_ _ | refine blk_drew ?_ | refine blk_alloc ?_ _)); refine blk_put (cs := #[.slice none 0 0, .slice none 0 0, .slice none 0 0, .slice none 0 0, .int .i64 0]) ?_ 0 _ rfl; exact qB aG.out⟩, ⟨by repeat (first | (with_reducible first | exact HB.out | apply below_alloc | apply pw_below_drewN | apply below_drew1 | refine below_set ?_ cD.out | refine below_set ?_ cE.out | refine below_set ?_ cQ.out | refine below_set ?_ cR.out | refine below_set ?_ dS.out) | exact HB.out)⟩⟩
    rw [if_pos c39] at H
    have dP : (t493 == 0) = true := beq_iff_eq.mpr c39
    have gE : (t493 != 0) = false := bne_eq_false_iff_eq.mpr c39
    clear c39
    (first | rw [dP] | (simp only [i64_w, i32_w]; rw [dP]) | skip)
    by_cases c40 : bN = 0
    ·rw [if_pos c40] at H
     have gF : (bN == 0) = true := beq_iff_eq.mpr c40
     have gG : (bN != 0) = false := bne_eq_false_iff_eq.mpr c40
     clear c40
     have H' := Aside0.mk H
     clear H
     go_wp2
     go_meet
     case rel => exact ⟨_, (true), (by first | rfl | (simp; done) | (simp [*]; done)), H', ⟨by have := HK1.out; first | omega | exact Nat.le_refl _⟩, ⟨by exact qR (Kd.R_mono (Kd.R_far (p := ⟨aA, 4, none⟩) (Kd.R_far (p := ⟨aA, 3, none⟩) (Kd.R_far (p := ⟨aA, 2, none⟩) (Kd.R_far (p := ⟨aA, 1, none⟩) (Kd.R_far (p := ⟨aA, 0, none⟩) (Kd.R_types bA.out aG.out (by decide)) (fun _ hk => hk.2) (.slice aH t480.length aI)) (fun _ hk => hk.2) (.slice aK t483.length aL)) (fun _ hk => hk.2) (.slice aO t486.length aP)) (fun _ hk => hk.2) (.slice aQ t489.length aR)) (fun _ hk => hk.2) (.int .i64 t492)) (fun _ hk => ⟨hk.1.1.1.1.1.1, ⟨hk.1.1.1.1.1.2.1, ⟨hk.1.1.1.1.1.2.2.1, ⟨hk.1.1.1.1.1.2.2.2, ⟨hk.1.1.1.1.2, ⟨hk.1.1.1.2, ⟨hk.1.1.2, hk.1.2⟩⟩⟩⟩⟩⟩⟩))⟩, ⟨by exact qR (Kd.R_mono (Kd.R_far (p := ⟨aA, 4, none⟩) (Kd.R_far (p := ⟨aA, 3, none⟩) (Kd.R_far (p := ⟨aA, 2, none⟩) (Kd.R_far (p := ⟨aA, 1, none⟩) (Kd.R_far (p := ⟨aA, 0, none⟩) (Kd.R_types bC.out aG.out (by decide)) (fun _ hk => hk.2) (.slice aH t480.length aI)) (fun _ hk => hk.2) (.slice aK t483.length aL)) (fun _ hk => hk.2) (.slice aO t486.length aP)) (fun _ hk => hk.2) (.slice aQ t489.length aR)) (fun _ hk => hk.2) (.int .i64 t492)) (fun _ hk => ⟨hk.1.1.1.1.1.1, ⟨hk.1.1.1.1.1.2.1, ⟨hk.1.1.1.1.1.2.2.1, ⟨hk.1.1.1.1.1.2.2.2, ⟨hk.1.1.1.1.2, ⟨hk.1.1.1.2, ⟨hk.1.1.2, hk.1.2⟩⟩⟩⟩⟩⟩⟩))⟩, ⟨by exact qR (Kd.R_mono (Kd.R_far (p := ⟨aA, 4, none⟩) (Kd.R_far (p := ⟨aA, 3, none⟩) (Kd.R_far (p := ⟨aA, 2, none⟩) (Kd.R_far (p := ⟨aA, 1, none⟩) (Kd.R_far (p := ⟨aA, 0, none⟩) (Kd.R_types bD.out aG.out (by decide)) (fun _ hk => hk.2) (.slice aH t480.length aI)) (fun _ hk => hk.2) (.slice aK t483.length aL)) (fun _ hk => hk.2) (.slice aO t486.length aP)) (fun _ hk => hk.2) (.slice aQ t489.length aR)) (fun _ hk => hk.2) (.int .i64 t492)) (fun _ hk => ⟨hk.1.1.1.1.1.1, ⟨hk.1.1.1.1.1.2.1, ⟨hk.1.1.1.1.1.2.2.1, ⟨hk.1.1.1.1.1.2.2.2, ⟨hk.1.1.1.1.2, ⟨hk.1.1.1.2, ⟨hk.1.1.2, hk.1.2⟩⟩⟩⟩⟩⟩⟩))⟩, ⟨by exact qR (Kd.R_mono (Kd.R_far (p := ⟨aA, 4, none⟩) (Kd.R_far (p := ⟨aA, 3, none⟩) (Kd.R_far (p := ⟨aA, 2, none⟩) (Kd.R_far (p := ⟨aA, 1, none⟩) (Kd.R_far (p := ⟨aA, 0, none⟩) (Kd.R_types bE.out aG.out (by decide)) (fun _ hk => hk.2) (.slice aH t480.length aI)) (fun _ hk => hk.2) (.slice aK t483.length aL)) (fun _ hk => hk.2) (.slice aO t486.length aP)) (fun _ hk => hk.2) (.slice aQ t489.length aR)) (fun _ hk => hk.2) (.int .i64 t492)) (fun _ hk => ⟨hk.1.1.1.1.1.1, ⟨hk.1.1.1.1.1.2.1, ⟨hk.1.1.1.1.1.2.2.1, ⟨hk.1.1.1.1.1.2.2.2, ⟨hk.1.1.1.1.2, ⟨hk.1.1.1.2, ⟨hk.1.1.2, hk.1.2⟩⟩⟩⟩⟩⟩⟩))⟩, ⟨by exact qR (Kd.R_mono (Kd.R_far (p := ⟨aA, 4, none⟩) (Kd.R_far (p := ⟨aA, 3, none⟩) (Kd.R_far (p := ⟨aA, 2, none⟩) (Kd.R_far (p := ⟨aA, 1, none⟩) (Kd.R_far (p := ⟨aA, 0, none⟩) (Kd.R_types bF.out aG.out (by decide)) (fun _ hk => hk.2) (.slice aH t480.length aI)) (fun _ hk => hk.2) (.slice aK t483.length aL)) (fun _ hk => hk.2) (.slice aO t486.length aP)) (fun _ hk => hk.2) (.slice aQ t489.length aR)) (fun _ hk => hk.2) (.int .i64 t492)) (fun _ hk => ⟨hk.1.1.1.1.1.1, ⟨hk.1.1.1.1.1.2.1, ⟨hk.1.1.1.1.1.2.2.1, ⟨hk.1.1.1.1.1.2.2.2, ⟨hk.1.1.1.1.2, ⟨hk.1.1.1.2, ⟨hk.1.1.2, hk.1.2⟩⟩⟩⟩⟩⟩⟩))⟩, ⟨by exact qR (Kd.R_mono (Kd.R_far (p := ⟨aA, 4, none⟩) (Kd.R_far (p := ⟨aA, 3, none⟩) (Kd.R_far (p := ⟨aA, 2, none⟩) (Kd.R_far (p := ⟨aA, 1, none⟩) (Kd.R_far (p := ⟨aA, 0, none⟩) (Kd.R_types dH.out aG.out (by decide)) (fun _ hk => hk.2) (.slice aH t480.length aI)) (fun _ hk => hk.2) (.slice aK t483.length aL)) (fun _ hk => hk.2) (.slice aO t486.length aP)) (fun _ hk => hk.2) (.slice aQ t489.length aR)) (fun _ hk => hk.2) (.int .i64 t492)) (fun _ hk => ⟨hk.1.1.1.1.1.2, ⟨hk.1.1.1.1.2, ⟨hk.1.1.1.2, ⟨hk.1.1.2, ⟨hk.1.2, ⟨hk.1.1.1.1.1.1.1, ⟨hk.1.1.1.1.1.1.2.1, hk.1.1.1.1.1.1.2.2⟩⟩⟩⟩⟩⟩⟩))⟩, ⟨by exact qR (Kd.R_mono (Kd.R_far (p := ⟨aA, 4, none⟩) (Kd.R_far (p := ⟨aA, 3, none⟩) (Kd.R_far (p := ⟨aA, 2, none⟩) (Kd.R_far (p := ⟨aA, 1, none⟩) (Kd.R_far (p := ⟨aA, 0, none⟩) (Kd.R_types dI.out aG.out (by decide)) (fun _ hk => hk.2) (.slice aH t480.length aI)) (fun _ hk => hk.2) (.slice aK t483.length aL)) (fun _ hk => hk.2) (.slice aO t486.length aP)) (fun _ hk => hk.2) (.slice aQ t489.length aR)) (fun _ hk => hk.2) (.int .i64 t492)) (fun _ hk => ⟨hk.1.1.1.1.1.2, ⟨hk.1.1.1.1.2, ⟨hk.1.1.1.2, ⟨hk.1.1.2, ⟨hk.1.2, ⟨hk.1.1.1.1.1.1.1, ⟨hk.1.1.1.1.1.1.2.1, hk.1.1.1.1.1.1.2.2⟩⟩⟩⟩⟩⟩⟩))⟩, ⟨by exact qR (Kd.R_mono (Kd.R_far (p := ⟨aA, 4, none⟩) (Kd.R_far (p := ⟨aA, 3, none⟩) (Kd.R_far (p := ⟨aA, 2, none⟩) (Kd.R_far (p := ⟨aA, 1, none⟩) (Kd.R_far (p := ⟨aA, 0, none⟩) (Kd.R_types dJ.out aG.out (by decide)) (fun _ hk => hk.2) (.slice aH t480.length aI)) (fun _ hk => hk.2) (.slice aK t483.length aL)) (fun _ hk => hk.2) (.slice aO t486.length aP)) (fun _ hk => hk.2) (.slice aQ t489.length aR)) (fun _ hk => hk.2) (.int .i64 t492)) (fun _ hk => ⟨hk.1.1.1.1.1.2, ⟨hk.1.1.1.1.2, ⟨hk.1.1.1.2, ⟨hk.1.1.2, ⟨hk.1.2, ⟨hk.1.1.1.1.1.1.1, ⟨hk.1.1.1.1.1.1.2.1, hk.1.1.1.1.1.1.2.2⟩⟩⟩⟩⟩⟩⟩))⟩, ⟨by exact qR (Kd.R_mono (Kd.R_far (p := ⟨aA, 4, none⟩) (Kd.R_far (p := ⟨aA, 3, none⟩) (Kd.R_far (p := ⟨aA, 2, none⟩) (Kd.R_far (p := ⟨aA, 1, none⟩) (Kd.R_far (p := ⟨aA, 0, none⟩) (Kd.R_types dK.out aG.out (by decide)) (fun _ hk => hk.2) (.slice aH t480.length aI)) (fun _ hk => hk.2) (.slice aK t483.length aL)) (fun _ hk => hk.2) (.slice aO t486.length aP)) (fun _ hk => hk.2) (.slice aQ t489.length aR)) (fun _ hk => hk.2) (.int .i64 t492)) (fun _ hk => ⟨hk.1.1.1.1.1.2, ⟨hk.1.1.1.1.2, ⟨hk.1.1.1.2, ⟨hk.1.1.2, ⟨hk.1.2, ⟨hk.1.1.1.1.1.1.1, ⟨hk.1.1.1.1.1.1.2.1, hk.1.1.1.1.1.1.2.2⟩⟩⟩⟩⟩⟩⟩))⟩, ⟨by (with_reducible repeat (first | refine blk_drewN ?_ _ | refine blk_drew ?_ | refine blk_alloc ?_ _)); refine blk_far ?_ bW.out _; (with_reducible repeat (first | refine blk_drewN ?_ _ | refine blk_drew ?_ | refine blk_alloc ?_ _)); refine blk_far ?_ bW.out _; (with_reducible repeat (first | refine blk_drewN ?_ _ | refine blk_drew ?_ | refine blk_alloc ?_ _)); refine blk_far ?_ bW.out _; (with_reducible repeat (first | refine blk_drewN ?_ _ | refine blk_drew ?_ | refine blk_alloc ?_ _)); refine blk_far ?_ bW.out _; (with_reducible repeat (first | refine blk_drewN ?_ _ | refine blk_drew ?_ | refine blk_alloc ?_ _)); refine blk_far ?_ bW.out _; exact qB aB.out⟩, ⟨by (with_reducible repeat (first | refine blk_drewN ?_ _ | refine blk_drew ?_ | refine blk_alloc ?_ _)); refine blk_far ?_ bX.out _; (with_reducible repeat (first | refine blk_drewN ?_ _ | refine blk_drew ?_ | refine blk_alloc ?_ _)); refine blk_far ?_ bX.out _; (with_reducible repeat (first | refine blk_drewN ?_ _ | refine blk_drew ?_ | refine blk_alloc ?_ _)); refine blk_far ?_ bX.out _; (with_reducible repeat (first | refine blk_drewN ?_ _ | refine blk_drew ?_ | refine blk_alloc ?_ _)); refine blk_far ?_ bX.out _; (with_reducible repeat (first | refine blk_drewN ?_ _ | refine blk_drew ?_ | refine blk_alloc ?_ _)); refine blk_far ?_ bX.out _; exact qB aC.out⟩, ⟨by (with_reducible repeat (first | refine blk_drewN ?_ _ | refine blk_drew ?_ | refine blk_alloc ?_ _)); refine blk_far ?_ bY.out _; (with_reducible repeat (first | refine blk_drewN ?_ _ | refine blk_drew ?_ | refine blk_alloc ?_ _)); refine blk_far ?_ bY.out _; (with_reducible repeat (first | refine blk_drewN ?_ _ | refine blk_drew ?_ | refine blk_alloc ?_ _)); refine blk_far ?_ bY.out _; (with_reducible repeat (first | refine blk_drewN ?_ _ | refine blk_drew ?_ | refine blk_alloc ?_ _)); refine blk_far ?_ bY.out _; (with_reducible repeat (first | refine blk_drewN ?_ _ | refine blk_drew ?_ | refine blk_alloc ?_ _)); refine blk_far ?_ bY.out _; exact qB aW.out⟩, ⟨by (with_reducible repeat (first | refine blk_drewN ?_ _ | refine blk_drew ?_ | refine blk_alloc ?_ _)); refine blk_far ?_ bM.out _; (with_reducible repeat (first | refine blk_drewN ?_ _ | refine blk_drew ?_ | refine blk_alloc ?_ _)); refine blk_far ?_ bM.out _; (with_reducible repeat (first | refine blk_drewN ?_ _ | refine blk_drew ?_ | refine blk_alloc ?_ _)); refine blk_far ?_ bM.out _; (with_reducible repeat (first | refine blk_drewN ?_ _ | refine blk_drew ?_ | refine blk_alloc ?_ _)); refine blk_far ?_ bM.out _; (with_reducible repeat (first | refine blk_drewN ?_ _ | refine blk_drew ?_ | refine blk_alloc ?_ _)); refine blk_far ?_ bM.out _; exact qB aM.out⟩, ⟨by (with_reducible repeat (first | refine blk_drewN ?_ _ | refine blk_drew ?_ | refine blk_alloc ?_ _)); refine blk_put (cs := #[.slice aH t480.length aI, .slice aK t483.length aL, .slice aO t486.length aP, .slice aQ t489.length aR, .int .i64 0]) ?_ 4 _ rfl; (with_reducible repeat (first | refine blk_drewN ?_ _ | refine blk_drew ?_ | refine blk_alloc ?_ _)); refine blk_put (cs := #[.slice aH t480.length aI, .slice aK t483.length aL, .slice aO t486.length aP, .slice none 0 0, .int .i64 0]) ?_ 3 _ rfl; (with_reducible repeat (first | refine blk_drewN ?_ _ | refine blk_drew ?_ | refine blk_alloc ?_ _)); refine blk_put (cs := #[.slice aH t480.length aI, .slice aK t483.length aL, .slice none 0 0, .slice none 0 0, .int .i64 0]) ?_ 2 _ rfl; (with_reducible repeat (first | refine blk_drewN ?_ _ | refine blk_drew ?_ | refine blk_alloc ?_ _)); refine blk_put (cs := #[.slice aH t480.length aI, .slice none 0 0, .slice none 0 0, .slice none 0 0, .int .i64 0]) ?_ 1 _ rfl; (with_reducible repeat (first | refine blk_drewN ?_ _ | refine blk_drew ?_ | refine blk_alloc ?_ _)); refine blk_put (cs := #[.slice none 0 0, .slice none 0 0, .slice none 0 0, .slice none 0 0, .int .i64 0]) ?_ 0 _ rfl; exact qB aG.out⟩, ⟨by repeat (first | (with_reducible first | exact HB.out | apply below_alloc | apply pw_below_drewN | apply below_drew1 | refine below_set ?_ cD.out | refine below_set ?_ cE.out | refine below_set ?_ cQ.out | refine below_set ?_ cR.out | refine below_set ?_ dS.out) | exact HB.out)⟩⟩
    ·rw [if_neg c40] at H
     have gF : (bN == 0) = false := beq_eq_false_iff_ne.mpr c40
     have gG : (bN != 0) = true := bne_iff_ne.mpr c40
     have H' := Aside0.mk H
     clear H
     have lH := gB.out
     have lI := bW.out
     have lJ := gC.out
     have lK := bX.out
     have lL := gD.out
     have lM := bY.out
     have lN := aX.out
     have lO := bM.out
     have hS : w29.cell? ⟨aA, 0, none⟩ = some (.slice none 0 0) := (blk_cell aG.out 0).trans rfl
     have hT : w29.cell? ⟨aA, 1, none⟩ = some (.slice none 0 0) := (blk_cell aG.out 1).trans rfl
     have hU : w29.cell? ⟨aA, 2, none⟩ = some (.slice none 0 0) := (blk_cell aG.out 2).trans rfl
     have hV : w29.cell? ⟨aA, 3, none⟩ = some (.slice none 0 0) := (blk_cell aG.out 3).trans rfl
     have hW : w29.cell? ⟨aA, 4, none⟩ = some (.int .i64 0) := (blk_cell aG.out 4).trans rfl
     have hX := blk_frozen aG.out 0
     have hY := blk_frozen aG.out 1
     have hZ := blk_frozen aG.out 2
     have iA := blk_frozen aG.out 3
     have iB := blk_frozen aG.out 4
     have lP := cS.out
     have lQ := cG.out
     have lR := aV.out
     have lS := bU.out
     have lT := dE.out
     have lU := cH.out
     have iC : w29.cell? ⟨aE, 0, none⟩ = some (bL) := (blk_cell aM.out 0).trans rfl
     have iD : w29.cell? ⟨aE, 1, none⟩ = some (bG) := (blk_cell aM.out 1).trans rfl
     have iE : w29.cell? ⟨aE, 2, none⟩ = some (bB) := (blk_cell aM.out 2).trans rfl
     have iF : w29.cell? ⟨aE, 3, none⟩ = some (aZ) := (blk_cell aM.out 3).trans rfl
     have iG : w29.cell? ⟨aE, 4, none⟩ = some (.int .i64 aY) := (blk_cell aM.out 4).trans rfl
     have iH := blk_frozen aM.out 0
     have iI := blk_frozen aM.out 1
     have iJ := blk_frozen aM.out 2
     have iK := blk_frozen aM.out 3
     have iL := blk_frozen aM.out 4
     go_wp2
     go_meet
     case rel => exact ⟨_, (decide (t492 < aY)), (by first | rfl | (simp; done) | (simp [*]; done)), H', ⟨by have := HK1.out; first | omega | exact Nat.le_refl _⟩, ⟨by exact qR (Kd.R_mono (Kd.R_far (p := ⟨aA, 4, none⟩) (Kd.R_far (p := ⟨aA, 3, none⟩) (Kd.R_far (p := ⟨aA, 2, none⟩) (Kd.R_far (p := ⟨aA, 1, none⟩) (Kd.R_far (p := ⟨aA, 0, none⟩) (Kd.R_types bA.out aG.out (by decide)) (fun _ hk => hk.2) (.slice aH t480.length aI)) (fun _ hk => hk.2) (.slice aK t483.length aL)) (fun _ hk => hk.2) (.slice aO t486.length aP)) (fun _ hk => hk.2) (.slice aQ t489.length aR)) (fun _ hk => hk.2) (.int .i64 t492)) (fun _ hk => ⟨hk.1.1.1.1.1.1, ⟨hk.1.1.1.1.1.2.1, ⟨hk.1.1.1.1.1.2.2.1, ⟨hk.1.1.1.1.1.2.2.2, ⟨hk.1.1.1.1.2, ⟨hk.1.1.1.2, ⟨hk.1.1.2, hk.1.2⟩⟩⟩⟩⟩⟩⟩))⟩, ⟨by exact qR (Kd.R_mono (Kd.R_far (p := ⟨aA, 4, none⟩) (Kd.R_far (p := ⟨aA, 3, none⟩) (Kd.R_far (p := ⟨aA, 2, none⟩) (Kd.R_far (p := ⟨aA, 1, none⟩) (Kd.R_far (p := ⟨aA, 0, none⟩) (Kd.R_types bC.out aG.out (by decide)) (fun _ hk => hk.2) (.slice aH t480.length aI)) (fun _ hk => hk.2) (.slice aK t483.length aL)) (fun _ hk => hk.2) (.slice aO t486.length aP)) (fun _ hk => hk.2) (.slice aQ t489.length aR)) (fun _ hk => hk.2) (.int .i64 t492)) (fun _ hk => ⟨hk.1.1.1.1.1.1, ⟨hk.1.1.1.1.1.2.1, ⟨hk.1.1.1.1.1.2.2.1, ⟨hk.1.1.1.1.1.2.2.2, ⟨hk.1.1.1.1.2, ⟨hk.1.1.1.2, ⟨hk.1.1.2, hk.1.2⟩⟩⟩⟩⟩⟩⟩))⟩, ⟨by exact qR (Kd.R_mono (Kd.R_far (p := ⟨aA, 4, none⟩) (Kd.R_far (p := ⟨aA, 3, none⟩) (Kd.R_far (p := ⟨aA, 2, none⟩) (Kd.R_far (p := ⟨aA, 1, none⟩) (Kd.R_far (p := ⟨aA, 0, none⟩) (Kd.R_types bD.out aG.out (by decide)) (fun _ hk => hk.2) (.slice aH t480.length aI)) (fun _ hk => hk.2) (.slice aK t483.length aL)) (fun _ hk => hk.2) (.slice aO t486.length aP)) (fun _ hk => hk.2) (.slice aQ t489.length aR)) (fun _ hk => hk.2) (.int .i64 t492)) (fun _ hk => ⟨hk.1.1.1.1.1.1, ⟨hk.1.1.1.1.1.2.1, ⟨hk.1.1.1.1.1.2.2.1, ⟨hk.1.1.1.1.1.2.2.2, ⟨hk.1.1.1.1.2, ⟨hk.1.1.1.2, ⟨hk.1.1.2, hk.1.2⟩⟩⟩⟩⟩⟩⟩))⟩, ⟨by exact qR (Kd.R_mono (Kd.R_far (p := ⟨aA, 4, none⟩) (Kd.R_far (p := ⟨aA, 3, none⟩) (Kd.R_far (p := ⟨aA, 2, none⟩) (Kd.R_far (p := ⟨aA, 1, none⟩) (Kd.R_far (p := ⟨aA, 0, none⟩) (Kd.R_types bE.out aG.out (by decide)) (fun _ hk => hk.2) (.slice aH t480.length aI)) (fun _ hk => hk.2) (.slice aK t483.length aL)) (fun _ hk => hk.2) (.slice aO t486.length aP)) (fun _ hk => hk.2) (.slice aQ t489.length aR)) (fun _ hk => hk.2) (.int .i64 t492)) (fun _ hk => ⟨hk.1.1.1.1.1.1, ⟨hk.1.1.1.1.1.2.1, ⟨hk.1.1.1.1.1.2.2.1, ⟨hk.1.1.1.1.1.2.2.2, ⟨hk.1.1.1.1.2, ⟨hk.1.1.1.2, ⟨hk.1.1.2, hk.1.2⟩⟩⟩⟩⟩⟩⟩))⟩, ⟨by exact qR (Kd.R_mono (Kd.R_far (p := ⟨aA, 4, none⟩) (Kd.R_far (p := ⟨aA, 3, none⟩) (Kd.R_far (p := ⟨aA, 2, none⟩) (Kd.R_far (p := ⟨aA, 1, none⟩) (Kd.R_far (p := ⟨aA, 0, none⟩) (Kd.R_types bF.out aG.out (by decide)) (fun _ hk => hk.2) (.slice aH t480.length aI)) (fun _ hk => hk.2) (.slice aK t483.length aL)) (fun _ hk => hk.2) (.slice aO t486.length aP)) (fun _ hk => hk.2) (.slice aQ t489.length aR)) (fun _ hk => hk.2) (.int .i64 t492)) (fun _ hk => ⟨hk.1.1.1.1.1.1, ⟨hk.1.1.1.1.1.2.1, ⟨hk.1.1.1.1.1.2.2.1, ⟨hk.1.1.1.1.1.2.2.2, ⟨hk.1.1.1.1.2, ⟨hk.1.1.1.2, ⟨hk.1.1.2, hk.1.2⟩⟩⟩⟩⟩⟩⟩))⟩, ⟨by exact qR (Kd.R_mono (Kd.R_far (p := ⟨aA, 4, none⟩) (Kd.R_far (p := ⟨aA, 3, none⟩) (Kd.R_far (p := ⟨aA, 2, none⟩) (Kd.R_far (p := ⟨aA, 1, none⟩) (Kd.R_far (p := ⟨aA, 0, none⟩) (Kd.R_types dH.out aG.out (by decide)) (fun _ hk => hk.2) (.slice aH t480.length aI)) (fun _ hk => hk.2) (.slice aK t483.length aL)) (fun _ hk => hk.2) (.slice aO t486.length aP)) (fun _ hk => hk.2) (.slice aQ t489.length aR)) (fun _ hk => hk.2) (.int .i64 t492)) (fun _ hk => ⟨hk.1.1.1.1.1.2, ⟨hk.1.1.1.1.2, ⟨hk.1.1.1.2, ⟨hk.1.1.2, ⟨hk.1.2, ⟨hk.1.1.1.1.1.1.1, ⟨hk.1.1.1.1.1.1.2.1, hk.1.1.1.1.1.1.2.2⟩⟩⟩⟩⟩⟩⟩))⟩, ⟨by exact qR (Kd.R_mono (Kd.R_far (p := ⟨aA, 4, none⟩) (Kd.R_far (p := ⟨aA, 3, none⟩) (Kd.R_far (p := ⟨aA, 2, none⟩) (Kd.R_far (p := ⟨aA, 1, none⟩) (Kd.R_far (p := ⟨aA, 0, none⟩) (Kd.R_types dI.out aG.out (by decide)) (fun _ hk => hk.2) (.slice aH t480.length aI)) (fun _ hk => hk.2) (.slice aK t483.length aL)) (fun _ hk => hk.2) (.slice aO t486.length aP)) (fun _ hk => hk.2) (.slice aQ t489.length aR)) (fun _ hk => hk.2) (.int .i64 t492)) (fun _ hk => ⟨hk.1.1.1.1.1.2, ⟨hk.1.1.1.1.2, ⟨hk.1.1.1.2, ⟨hk.1.1.2, ⟨hk.1.2, ⟨hk.1.1.1.1.1.1.1, ⟨hk.1.1.1.1.1.1.2.1, hk.1.1.1.1.1.1.2.2⟩⟩⟩⟩⟩⟩⟩))⟩, ⟨by exact qR (Kd.R_mono (Kd.R_far (p := ⟨aA, 4, none⟩) (Kd.R_far (p := ⟨aA, 3, none⟩) (Kd.R_far (p := ⟨aA, 2, none⟩) (Kd.R_far (p := ⟨aA, 1, none⟩) (Kd.R_far (p := ⟨aA, 0, none⟩) (Kd.R_types dJ.out aG.out (by decide)) (fun _ hk => hk.2) (.slice aH t480.length aI)) (fun _ hk => hk.2) (.slice aK t483.length aL)) (fun _ hk => hk.2) (.slice aO t486.length aP)) (fun _ hk => hk.2) (.slice aQ t489.length aR)) (fun _ hk => hk.2) (.int .i64 t492)) (fun _ hk => ⟨hk.1.1.1.1.1.2, ⟨hk.1.1.1.1.2, ⟨hk.1.1.1.2, ⟨hk.1.1.2, ⟨hk.1.2, ⟨hk.1.1.1.1.1.1.1, ⟨hk.1.1.1.1.1.1.2.1, hk.1.1.1.1.1.1.2.2⟩⟩⟩⟩⟩⟩⟩))⟩, ⟨by exact qR (Kd.R_mono (Kd.R_far (p := ⟨aA, 4, none⟩) (Kd.R_far (p := ⟨aA, 3, none⟩) (Kd.R_far (p := ⟨aA, 2, none⟩) (Kd.R_far (p := ⟨aA, 1, none⟩) (Kd.R_far (p := ⟨aA, 0, none⟩) (Kd.R_types dK.out aG.out (by decide)) (fun _ hk => hk.2) (.slice aH t480.length aI)) (fun _ hk => hk.2) (.slice aK t483.length aL)) (fun _ hk => hk.2) (.slice aO t486.length aP)) (fun _ hk => hk.2) (.slice aQ t489.length aR)) (fun _ hk => hk.2) (.int .i64 t492)) (fun _ hk => ⟨hk.1.1.1.1.1.2, ⟨hk.1.1.1.1.2, ⟨hk.1.1.1.2, ⟨hk.1.1.2, ⟨hk.1.2, ⟨hk.1.1.1.1.1.1.1, ⟨hk.1.1.1.1.1.1.2.1, hk.1.1.1.1.1.1.2.2⟩⟩⟩⟩⟩⟩⟩))⟩, ⟨by (with_reducible repeat (first | refine blk_drewN ?_ _ | refine blk_drew ?_ | refine blk_alloc ?_ _)); refine blk_far ?_ bW.out _; (with_reducible repeat (first | refine blk_drewN ?_ _ | refine blk_drew ?_ | refine blk_alloc ?_ _)); refine blk_far ?_ bW.out _; (with_reducible repeat (first | refine blk_drewN ?_ _ | refine blk_drew ?_ | refine blk_alloc ?_ _)); refine blk_far ?_ bW.out _; (with_reducible repeat (first | refine blk_drewN ?_ _ | refine blk_drew ?_ | refine blk_alloc ?_ _)); refine blk_far ?_ bW.out _; (with_reducible repeat (first | refine blk_drewN ?_ _ | refine blk_drew ?_ | refine blk_alloc ?_ _)); refine blk_far ?_ bW.out _; exact qB aB.out⟩, ⟨by (with_reducible repeat (first | refine blk_drewN ?_ _ | refine blk_drew ?_ | refine blk_alloc ?_ _)); refine blk_far ?_ bX.out _; (with_reducible repeat (first | refine blk_drewN ?_ _ | refine blk_drew ?_ | refine blk_alloc ?_ _)); refine blk_far ?_ bX.out _; (with_reducible repeat (first | refine blk_drewN ?_ _ | refine blk_drew ?_ | refine blk_alloc ?_ _)); refine blk_far ?_ bX.out _; (with_reducible repeat (first | refine blk_drewN ?_ _ | refine blk_drew ?_ | refine blk_alloc ?_ _)); refine blk_far ?_ bX.out _; (with_reducible repeat (first | refine blk_drewN ?_ _ | refine blk_drew ?_ | refine blk_alloc ?_ _)); refine blk_far ?_ bX.out _; exact qB aC.out⟩, ⟨by (with_reducible repeat (first | refine blk_drewN ?_ _ | refine blk_drew ?_ | refine blk_alloc ?_ _)); refine blk_far ?_ bY.out _; (with_reducible repeat (first | refine blk_drewN ?_ _ | refine blk_drew ?_ | refine blk_alloc ?_ _)); refine blk_far ?_ bY.out _; (with_reducible repeat (first | refine blk_drewN ?_ _ | refine blk_drew ?_ | refine blk_alloc ?_ _)); refine blk_far ?_ bY.out _; (with_reducible repeat (first | refine blk_drewN ?_ _ | refine blk_drew ?_ | refine blk_alloc ?_ _)); refine blk_far ?_ bY.out _; (with_reducible repeat (first | refine blk_drewN ?_ _ | refine blk_drew ?_ | refine blk_alloc ?_ _)); refine blk_far ?_ bY.out _; exact qB aW.out⟩, ⟨by (with_reducible repeat (first | refine blk_drewN ?_ _ | refine blk_drew ?_ | refine blk_alloc ?_ _)); refine blk_far ?_ bM.out _; (with_reducible repeat (first | refine blk_drewN ?_ _ | refine blk_drew ?_ | refine blk_alloc ?_ _)); refine blk_far ?_ bM.out _; (with_reducible repeat (first | refine blk_drewN ?_ _ | refine blk_drew ?_ | refine blk_alloc ?_ _)); refine blk_far ?_ bM.out _; (with_reducible repeat (first | refine blk_drewN ?_ _ | refine blk_drew ?_ | refine blk_alloc ?_ _)); refine blk_far ?_ bM.out _; (with_reducible repeat (first | refine blk_drewN ?_ _ | refine blk_drew ?_ | refine blk_alloc ?_ _)); refine blk_far ?_ bM.out _; exact qB aM.out⟩, ⟨by (with_reducible repeat (first | refine blk_drewN ?_ _ | refine blk_drew ?_ | refine blk_alloc ?_ _)); refine blk_put (cs := #[.slice aH t480.length aI, .slice aK t483.length aL, .slice aO t486.length aP, .slice aQ t489.length aR, .int .i64 0]) ?_ 4 _ rfl; (with_reducible repeat (first | refine blk_drewN ?_ _ | refine blk_drew ?_ | refine blk_alloc ?_ _)); refine blk_put (cs := #[.slice aH t480.length aI, .slice aK t483.length aL, .slice aO t486.length aP, .slice none 0 0, .int .i64 0]) ?_ 3 _ rfl; (with_reducible repeat (first | refine blk_drewN ?_ _ | refine blk_drew ?_ | refine blk_alloc ?_ _)); refine blk_put (cs := #[.slice aH t480.length aI, .slice aK t483.length aL, .slice none 0 0, .slice none 0 0, .int .i64 0]) ?_ 2 _ rfl; (with_reducible repeat (first | refine blk_drewN ?_ _ | refine blk_drew ?_ | refine blk_alloc ?_ _)); refine blk_put (cs := #[.slice aH t480.length aI, .slice none 0 0, .slice none 0 0, .slice none 0 0, .int .i64 0]) ?_ 1 _ rfl; (with_reducible repeat (first | refine blk_drewN ?_ _ | refine blk_drew ?_ | refine blk_alloc ?_ _)); refine blk_put (cs := #[.slice none 0 0, .slice none 0 0, .slice none 0 0, .slice none 0 0, .int .i64 0]) ?_ 0 _ rfl; exact qB aG.out⟩, ⟨by repeat (first | (with_reducible first | exact HB.out | apply below_alloc | apply pw_below_drewN | apply below_drew1 | refine below_set ?_ cD.out | refine below_set ?_ cE.out | refine below_set ?_ cQ.out | refine below_set ?_ cR.out | refine below_set ?_ dS.out) | exact HB.out)⟩⟩
   case rest =>
    clear eK
    try clear c1
    try clear c2
    try clear p2
    try clear c3
    try clear c4
    try clear c6
    try clear eG
    try clear eH
    try clear p6
    try clear c10
    try clear c15
    try clear c18
    try clear fM
    try clear c21
    try clear c22
    try clear c23
    try clear c25
    try clear c26
    try clear c31
    try clear c32
    try clear c33
    try clear c34
    try clear c35
    try clear c36
    try clear c39
    try clear dP
    try clear gE
    try clear c40
    try clear gF
    try clear gG
    try clear c41
    try clear c42
    try clear c43
    try clear c44
    try clear c46
    try clear c47
    try clear c48
    try clear eR
    try clear eS
    try clear eT
    try clear eU
    try clear eV
    try clear fB
    try clear fC
    try clear fD
    try clear fE
    try clear fF
    try clear gP
    try clear gQ
    try clear gR
    try clear gS
    try clear gT
    try clear gZ
    try clear hA
    try clear hE
    try clear hF
    try clear hG
    try clear hH
    try clear hI
    try clear hS
    try clear hT
    try clear hU
    try clear hV
    try clear hW
    try clear iC
    try clear iD
    try clear iE
    try clear iF
    try clear iG
    try clear eW
    try clear eX
    try clear eY
    try clear eZ
    try clear fA
    try clear fG
    try clear fH
    try clear fI
    try clear fJ
    try clear fK
    try clear gU
    try clear gV
    try clear gW
    try clear gX
    try clear gY
    try clear hB
    try clear hC
    try clear hJ
    try clear hL
    try clear hM
    try clear hN
    try clear hO
    try clear hX
    try clear hY
    try clear hZ
    try clear iA
    try clear iB
    try clear iH
    try clear iI
    try clear iJ
    try clear iK
    try clear iL
    try clear p2
    obtain ⟨kq, eA, rfl, HA, eB, bA, bC, bD, bE, bF, dT, dU, dV, dW, aB, aC, aW, aM, aG, HB⟩ := hcut
    cases kq with
    | zero => exact absurd HA.out (by simp [planner_Best.j1])
    | succ eC =>
     have H := HA.out
     clear HA
     simp only [planner_Best.j1] at H
     by_cases c50 : eA = true
     case neg =>
      replace c50 := Bool.eq_false_iff.mpr c50
      subst c50
      have H1 : (planner_Best.l0 eC bN a1 (wrap64 (aJ + 1)) aS aN (wrap64 (aJ + 1)) aT aU t474 t477 bO bQ bS bV aY) = some (r1, r2, r3, r4, r5, r6, r7) := by rw [if_neg (show ¬ (false = true) by decide)] at H; exact H
      clear H
      have H := H1
      clear H1
      have H' := Aside0.mk H
      clear H
      go_wp2
      go_roundg eC
      case measure => have := HK1.out; have := eB.out; omega
      case rel => exact ⟨(bN), (wrap64 (aJ + 1)), ((wrap64 (aJ + 1))), (bO), (bQ), (bS), (bV), (aY), (bL), (bG), (bB), (aZ), (by first | rfl | (simp; done) | (simp [*]; done)), (by first | rfl | (simp; done) | (simp [*]; done)), H', ⟨by have := HK1.out; have := eB.out; omega⟩, ⟨by exact qR (Kd.R_mono bA.out (fun _ hk => ⟨hk.1, ⟨hk.2.1, ⟨hk.2.2.1, hk.2.2.2.1⟩⟩⟩))⟩, ⟨by exact qR (Kd.R_mono bC.out (fun _ hk => ⟨hk.1, ⟨hk.2.1, ⟨hk.2.2.1, hk.2.2.2.1⟩⟩⟩))⟩, ⟨by exact qR (Kd.R_mono bD.out (fun _ hk => ⟨hk.1, ⟨hk.2.1, ⟨hk.2.2.1, hk.2.2.2.1⟩⟩⟩))⟩, ⟨by exact qR (Kd.R_mono bE.out (fun _ hk => ⟨hk.1, ⟨hk.2.1, ⟨hk.2.2.1, hk.2.2.2.1⟩⟩⟩))⟩, ⟨by exact qR (Kd.R_mono bF.out (fun _ hk => ⟨hk.1, ⟨hk.2.1, ⟨hk.2.2.1, hk.2.2.2.1⟩⟩⟩))⟩, ⟨by exact qB aB.out⟩, ⟨by exact qB aC.out⟩, ⟨by exact qB aW.out⟩, ⟨by exact qB aM.out⟩, ⟨by repeat (first | (with_reducible first | exact HB.out | apply below_alloc | apply pw_below_drewN | apply below_drew1 | refine below_set ?_ cD.out | refine below_set ?_ cE.out | refine below_set ?_ cQ.out | refine below_set ?_ cR.out | refine below_set ?_ dS.out) | exact HB.out)⟩⟩
     subst c50
     have H1 : (planner_Best.l0 eC (wrap64 (aJ + 1)) a1 (wrap64 (aJ + 1)) aS aN (wrap64 (aJ + 1)) aT aU t474 t477 t480 t483 t486 t489 t492) = some (r1, r2, r3, r4, r5, r6, r7) := by rw [if_pos rfl] at H; exact H
     clear H
     have H := H1
     clear H1
     have H' := Aside0.mk H
     clear H
     try go_wp2
     have n0_ := Aside0.mk (Kd.R_drew bA.out)
     have n1_ := Aside0.mk (Kd.R_drew bC.out)
     have n2_ := Aside0.mk (Kd.R_drew bD.out)
     have n3_ := Aside0.mk (Kd.R_drew bE.out)
     have n4_ := Aside0.mk (Kd.R_drew bF.out)
     have n5_ := Aside0.mk (Kd.R_drew dT.out)
     have n6_ := Aside0.mk (Kd.R_drew dU.out)
     have n7_ := Aside0.mk (Kd.R_drew dV.out)
     have n8_ := Aside0.mk (Kd.R_drew dW.out)
     have n9_ := Aside0.mk (blk_drew aB.out)
     have cI := Aside0.mk (blk_drew aC.out)
     have cJ := Aside0.mk (blk_drew aW.out)
     have cK := Aside0.mk (blk_drew aM.out)
     have cL := Aside0.mk (blk_drew aG.out)
     have dR := Aside0.mk (below_drew1 HB.out)
     clear bA bC bD bE bF dT dU dV dW aB aC aW aM aG HB
     have bA := n0_
     have bC := n1_
     have bD := n2_
     have bE := n3_
     have bF := n4_
     have dT := n5_
     have dU := n6_
     have dV := n7_
     have dW := n8_
     have aB := n9_
     have aC := cI
     have aW := cJ
     have aM := cK
     have aG := cL
     have HB := dR
     clear n0_ n1_ n2_ n3_ n4_ n5_ n6_ n7_ n8_ n9_ cI cJ cK cL dR
     refine start_ (n := 5) (S := fun w' => w'.cell? ⟨aA, 0, none⟩ = some (.slice aH t480.length aI) ∧ w'.cell? ⟨aA, 1, none⟩ = some (.slice aK t483.length aL) ∧ w'.cell? ⟨aA, 2, none⟩ = some (.slice aO t486.length aP) ∧ w'.cell? ⟨aA, 3, none⟩ = some (.slice aQ t489.length aR) ∧ w'.cell? ⟨aA, 4, none⟩ = some (.int .i64 t492)) (ds := []) #[false, false, false, false, false] (by kernel_rfl) rfl rfl ⟨(blk_cell aG.out 0).trans rfl, (blk_cell aG.out 1).trans rfl, (blk_cell aG.out 2).trans rfl, (blk_cell aG.out 3).trans rfl, (blk_cell aG.out 4).trans rfl⟩ (fun hHeld => ?_)
     generalize wc.drew = w51 at bA bC bD bE bF dT dU dV dW aB aC aW aM aG HB hHeld ⊢
     refine pure_ (i := 0) (N := some 55) (v := ?_) (a' := ?_) #[true, false, false, false, false] rfl rfl (by kernel_rfl) (fun _ _ _ h => h) (Or.inl ⟨by rfl, ?_⟩) ?_ ?_; rotate_left
     ·intro w'
      go_simp
      with_reducible rfl
     rotate_left
     ·simp only [Act.put, List.setIfInBounds_toArray, List.set_cons_zero, List.set_cons_succ, i64_w, i32_w]
      rfl
     refine pure_ (i := 1) (N := some 56) (v := ?_) (a' := ?_) #[true, true, false, false, false] rfl rfl (by kernel_rfl) (fun _ _ _ h => h) (Or.inl ⟨by rfl, ?_⟩) ?_ ?_; rotate_left
     ·intro w'
      go_simp
      with_reducible rfl
     rotate_left
     ·simp only [Act.put, List.setIfInBounds_toArray, List.set_cons_zero, List.set_cons_succ, i64_w, i32_w]
      rfl
     refine pure_ (i := 3) (N := some 9) (v := ?_) (a' := ?_) #[true, true, false, true, false] rfl rfl (by kernel_rfl) (fun _ _ _ h => h) (Or.inl ⟨by rfl, ?_⟩) ?_ ?_; rotate_left
     ·intro w'
      go_simp
      with_reducible rfl
     rotate_left
     ·simp only [Act.put, List.setIfInBounds_toArray, List.set_cons_zero, List.set_cons_succ, i64_w, i32_w]
      rfl
     refine take_ (i := 2) (N := some 57) (v := ?_) (a' := ?_) #[true, true, true, true, false] rfl rfl (by kernel_rfl) (fun _ _ _ h => h) (Or.inl ⟨by rfl, ?_⟩) hHeld ?_ ?_; rotate_left
     ·rintro w' ⟨s0, s1, s2, s3, s4⟩
      go_simp
      with_reducible rfl
     rotate_left
     ·simp only [Act.put, List.setIfInBounds_toArray, List.set_cons_zero, List.set_cons_succ, i64_w, i32_w]
      rfl
     refine one_ (i := 4) (N := none) #[true, true, true, true, true] rfl rfl (by kernel_rfl) (by decide) (fun K hK => ?_)
     have hs52 : w51.cell? ⟨aE, 0, none⟩ = some (bL) := (blk_cell aM.out 0).trans rfl
     have hfs52 := blk_frozen aM.out 0
     have hns52_0 := cG.out
     have hns52_1 := bU.out
     have hns52_2 := cH.out
     have hns52_4 := aX.out
     have hms52_0 := cS.out
     have hms52_1 := aV.out
     have hms52_2 := dE.out
     have hms52_4 := bM.out
     have hs53 : w51.cell? ⟨aE, 1, none⟩ = some (bG) := (blk_cell aM.out 1).trans rfl
     have hfs53 := blk_frozen aM.out 1
     have hns53_0 := cG.out
     have hns53_1 := bU.out
     have hns53_2 := cH.out
     have hns53_4 := aX.out
     have hms53_0 := cS.out
     have hms53_1 := aV.out
     have hms53_2 := dE.out
     have hms53_4 := bM.out
     have hs54 : w51.cell? ⟨aE, 2, none⟩ = some (bB) := (blk_cell aM.out 2).trans rfl
     have hfs54 := blk_frozen aM.out 2
     have hns54_0 := cG.out
     have hns54_1 := bU.out
     have hns54_2 := cH.out
     have hns54_4 := aX.out
     have hms54_0 := cS.out
     have hms54_1 := aV.out
     have hms54_2 := dE.out
     have hms54_4 := bM.out
     have hs55 : w51.cell? ⟨aE, 3, none⟩ = some (aZ) := (blk_cell aM.out 3).trans rfl
     have hfs55 := blk_frozen aM.out 3
     have hns55_0 := cG.out
     have hns55_1 := bU.out
     have hns55_2 := cH.out
     have hns55_4 := aX.out
     have hms55_0 := cS.out
     have hms55_1 := aV.out
     have hms55_2 := dE.out
     have hms55_4 := bM.out
     have hs56 : w51.cell? ⟨aE, 4, none⟩ = some (.int .i64 aY) := (blk_cell aM.out 4).trans rfl
     have hfs56 := blk_frozen aM.out 4
     have hns56_0 := cG.out
     have hns56_1 := bU.out
     have hns56_2 := cH.out
     have hns56_4 := aX.out
     have hms56_0 := cS.out
     have hms56_1 := aV.out
     have hms56_2 := dE.out
     have hms56_4 := bM.out
     refine skip_ (w1 := ?_) (by rfl) rfl ?_ ?_; rotate_left
     ·go_simp
      rfl
     refine hK.out _ _ ⟨((cell_far (p := ⟨aE, _, none⟩) aX.out _).trans (((cell_far (p := ⟨aE, _, none⟩) aX.out _).trans (((cell_far (p := ⟨aE, _, none⟩) aX.out _).trans (((cell_far (p := ⟨aE, _, none⟩) aX.out _).trans (((cell_far (p := ⟨aE, _, none⟩) aX.out _).trans (hHeld.1)))))))))), ((cell_far (p := ⟨aE, _, none⟩) aX.out _).trans (((cell_far (p := ⟨aE, _, none⟩) aX.out _).trans (((cell_far (p := ⟨aE, _, none⟩) aX.out _).trans (((cell_far (p := ⟨aE, _, none⟩) aX.out _).trans (((cell_far (p := ⟨aE, _, none⟩) aX.out _).trans (hHeld.2.1)))))))))), ((cell_far (p := ⟨aE, _, none⟩) aX.out _).trans (((cell_far (p := ⟨aE, _, none⟩) aX.out _).trans (((cell_far (p := ⟨aE, _, none⟩) aX.out _).trans (((cell_far (p := ⟨aE, _, none⟩) aX.out _).trans (((cell_far (p := ⟨aE, _, none⟩) aX.out _).trans (hHeld.2.2.1)))))))))), ((cell_far (p := ⟨aE, _, none⟩) aX.out _).trans (((cell_far (p := ⟨aE, _, none⟩) aX.out _).trans (((cell_far (p := ⟨aE, _, none⟩) aX.out _).trans (((cell_far (p := ⟨aE, _, none⟩) aX.out _).trans (((cell_far (p := ⟨aE, _, none⟩) aX.out _).trans (hHeld.2.2.2.1)))))))))), ((cell_far (p := ⟨aE, _, none⟩) aX.out _).trans (((cell_far (p := ⟨aE, _, none⟩) aX.out _).trans (((cell_far (p := ⟨aE, _, none⟩) aX.out _).trans (((cell_far (p := ⟨aE, _, none⟩) aX.out _).trans (((cell_far (p := ⟨aE, _, none⟩) aX.out _).trans (hHeld.2.2.2.2))))))))))⟩ (fun hHeld => ?_); clear hK K
     refine done_ (by kernel_rfl) ?_
     try go_wp2
     go_roundg eC
     case measure => have := HK1.out; have := eB.out; omega
     case rel => exact ⟨(wrap64 (aJ + 1)), (wrap64 (aJ + 1)), ((wrap64 (aJ + 1))), (t480), (t483), (t486), (t489), (t492), (.slice aH t480.length aI), (.slice aK t483.length aL), (.slice aO t486.length aP), (.slice aQ t489.length aR), (by first | rfl | (simp; done) | (simp [*]; done)), (by first | rfl | (simp; done) | (simp [*]; done)), H', ⟨by have := HK1.out; have := eB.out; omega⟩, ⟨by exact qR (Kd.R_mono (Kd.R_far (p := ⟨aE, 4, none⟩) (Kd.R_far (p := ⟨aE, 3, none⟩) (Kd.R_far (p := ⟨aE, 2, none⟩) (Kd.R_far (p := ⟨aE, 1, none⟩) (Kd.R_far (p := ⟨aE, 0, none⟩) (Kd.R_types bA.out aM.out (by decide)) (fun _ hk => hk.2) (.slice aH t480.length aI)) (fun _ hk => hk.2) (.slice aK t483.length aL)) (fun _ hk => hk.2) (.slice aO t486.length aP)) (fun _ hk => hk.2) (.slice aQ t489.length aR)) (fun _ hk => hk.2) (.int .i64 t492)) (fun _ hk => ⟨hk.1.2.2.2.2.1, ⟨hk.1.2.2.2.2.2.1, ⟨hk.1.2.2.2.2.2.2.1, hk.1.2.2.2.2.2.2.2⟩⟩⟩))⟩, ⟨by exact qR (Kd.R_mono (Kd.R_far (p := ⟨aE, 4, none⟩) (Kd.R_far (p := ⟨aE, 3, none⟩) (Kd.R_far (p := ⟨aE, 2, none⟩) (Kd.R_far (p := ⟨aE, 1, none⟩) (Kd.R_far (p := ⟨aE, 0, none⟩) (Kd.R_types dT.out aM.out (by decide)) (fun _ hk => hk.2) (.slice aH t480.length aI)) (fun _ hk => hk.2) (.slice aK t483.length aL)) (fun _ hk => hk.2) (.slice aO t486.length aP)) (fun _ hk => hk.2) (.slice aQ t489.length aR)) (fun _ hk => hk.2) (.int .i64 t492)) (fun _ hk => ⟨hk.1.1, ⟨hk.1.2.2.2.2.2.1, ⟨hk.1.2.2.2.2.2.2.1, hk.1.2.2.2.2.2.2.2⟩⟩⟩))⟩, ⟨by exact qR (Kd.R_mono (Kd.R_far (p := ⟨aE, 4, none⟩) (Kd.R_far (p := ⟨aE, 3, none⟩) (Kd.R_far (p := ⟨aE, 2, none⟩) (Kd.R_far (p := ⟨aE, 1, none⟩) (Kd.R_far (p := ⟨aE, 0, none⟩) (Kd.R_types dU.out aM.out (by decide)) (fun _ hk => hk.2) (.slice aH t480.length aI)) (fun _ hk => hk.2) (.slice aK t483.length aL)) (fun _ hk => hk.2) (.slice aO t486.length aP)) (fun _ hk => hk.2) (.slice aQ t489.length aR)) (fun _ hk => hk.2) (.int .i64 t492)) (fun _ hk => ⟨hk.1.1, ⟨hk.1.2.2.2.2.2.1, ⟨hk.1.2.2.2.2.2.2.1, hk.1.2.2.2.2.2.2.2⟩⟩⟩))⟩, ⟨by exact qR (Kd.R_mono (Kd.R_far (p := ⟨aE, 4, none⟩) (Kd.R_far (p := ⟨aE, 3, none⟩) (Kd.R_far (p := ⟨aE, 2, none⟩) (Kd.R_far (p := ⟨aE, 1, none⟩) (Kd.R_far (p := ⟨aE, 0, none⟩) (Kd.R_types dV.out aM.out (by decide)) (fun _ hk => hk.2) (.slice aH t480.length aI)) (fun _ hk => hk.2) (.slice aK t483.length aL)) (fun _ hk => hk.2) (.slice aO t486.length aP)) (fun _ hk => hk.2) (.slice aQ t489.length aR)) (fun _ hk => hk.2) (.int .i64 t492)) (fun _ hk => ⟨hk.1.1, ⟨hk.1.2.2.2.2.2.1, ⟨hk.1.2.2.2.2.2.2.1, hk.1.2.2.2.2.2.2.2⟩⟩⟩))⟩, ⟨by exact qR (Kd.R_mono (Kd.R_far (p := ⟨aE, 4, none⟩) (Kd.R_far (p := ⟨aE, 3, none⟩) (Kd.R_far (p := ⟨aE, 2, none⟩) (Kd.R_far (p := ⟨aE, 1, none⟩) (Kd.R_far (p := ⟨aE, 0, none⟩) (Kd.R_types dW.out aM.out (by decide)) (fun _ hk => hk.2) (.slice aH t480.length aI)) (fun _ hk => hk.2) (.slice aK t483.length aL)) (fun _ hk => hk.2) (.slice aO t486.length aP)) (fun _ hk => hk.2) (.slice aQ t489.length aR)) (fun _ hk => hk.2) (.int .i64 t492)) (fun _ hk => ⟨hk.1.1, ⟨hk.1.2.2.2.2.2.1, ⟨hk.1.2.2.2.2.2.2.1, hk.1.2.2.2.2.2.2.2⟩⟩⟩))⟩, ⟨by (with_reducible repeat (first | refine blk_drewN ?_ _ | refine blk_drew ?_ | refine blk_alloc ?_ _)); refine blk_far ?_ cG.out _; (with_reducible repeat (first | refine blk_drewN ?_ _ | refine blk_drew ?_ | refine blk_alloc ?_ _)); refine blk_far ?_ cG.out _; (with_reducible repeat (first | refine blk_drewN ?_ _ | refine blk_drew ?_ | refine blk_alloc ?_ _)); refine blk_far ?_ cG.out _; (with_reducible repeat (first | refine blk_drewN ?_ _ | refine blk_drew ?_ | refine blk_alloc ?_ _)); refine blk_far ?_ cG.out _; (with_reducible repeat (first | refine blk_drewN ?_ _ | refine blk_drew ?_ | refine blk_alloc ?_ _)); refine blk_far ?_ cG.out _; exact qB aB.out⟩, ⟨by (with_reducible repeat (first | refine blk_drewN ?_ _ | refine blk_drew ?_ | refine blk_alloc ?_ _)); refine blk_far ?_ bU.out _; (with_reducible repeat (first | refine blk_drewN ?_ _ | refine blk_drew ?_ | refine blk_alloc ?_ _)); refine blk_far ?_ bU.out _; (with_reducible repeat (first | refine blk_drewN ?_ _ | refine blk_drew ?_ | refine blk_alloc ?_ _)); refine blk_far ?_ bU.out _; (with_reducible repeat (first | refine blk_drewN ?_ _ | refine blk_drew ?_ | refine blk_alloc ?_ _)); refine blk_far ?_ bU.out _; (with_reducible repeat (first | refine blk_drewN ?_ _ | refine blk_drew ?_ | refine blk_alloc ?_ _)); refine blk_far ?_ bU.out _; exact qB aC.out⟩, ⟨by (with_reducible repeat (first | refine blk_drewN ?_ _ | refine blk_drew ?_ | refine blk_alloc ?_ _)); refine blk_far ?_ cH.out _; (with_reducible repeat (first | refine blk_drewN ?_ _ | refine blk_drew ?_ | refine blk_alloc ?_ _)); refine blk_far ?_ cH.out _; (with_reducible repeat (first | refine blk_drewN ?_ _ | refine blk_drew ?_ | refine blk_alloc ?_ _)); refine blk_far ?_ cH.out _; (with_reducible repeat (first | refine blk_drewN ?_ _ | refine blk_drew ?_ | refine blk_alloc ?_ _)); refine blk_far ?_ cH.out _; (with_reducible repeat (first | refine blk_drewN ?_ _ | refine blk_drew ?_ | refine blk_alloc ?_ _)); refine blk_far ?_ cH.out _; exact qB aW.out⟩, ⟨by (with_reducible repeat (first | refine blk_drewN ?_ _ | refine blk_drew ?_ | refine blk_alloc ?_ _)); refine blk_put (cs := #[.slice aH t480.length aI, .slice aK t483.length aL, .slice aO t486.length aP, .slice aQ t489.length aR, .int .i64 aY]) ?_ 4 _ rfl; (with_reducible repeat (first | refine blk_drewN ?_ _ | refine blk_drew ?_ | refine blk_alloc ?_ _)); refine blk_put (cs := #[.slice aH t480.length aI, .slice aK t483.length aL, .slice aO t486.length aP, aZ, .int .i64 aY]) ?_ 3 _ rfl; (with_reducible repeat (first | refine blk_drewN ?_ _ | refine blk_drew ?_ | refine blk_alloc ?_ _)); refine blk_put (cs := #[.slice aH t480.length aI, .slice aK t483.length aL, bB, aZ, .int .i64 aY]) ?_ 2 _ rfl; (with_reducible repeat (first | refine blk_drewN ?_ _ | refine blk_drew ?_ | refine blk_alloc ?_ _)); refine blk_put (cs := #[.slice aH t480.length aI, bG, bB, aZ, .int .i64 aY]) ?_ 1 _ rfl; (with_reducible repeat (first | refine blk_drewN ?_ _ | refine blk_drew ?_ | refine blk_alloc ?_ _)); refine blk_put (cs := #[bL, bG, bB, aZ, .int .i64 aY]) ?_ 0 _ rfl; exact qB aM.out⟩, ⟨by repeat (first | (with_reducible first | exact HB.out | apply below_alloc | apply pw_below_drewN | apply below_drew1 | refine below_set ?_ cD.out | refine below_set ?_ cE.out | refine below_set ?_ cQ.out | refine below_set ?_ cR.out | refine below_set ?_ dS.out) | exact HB.out)⟩⟩
end Go.Proofs.Ytcflacjidabppaa.Pr

-- Written by pp.py, a program of this session, over the translation of the given program; a machine's text: Lean checks it.
import Derived.Test.YtcflacjidabppaaGShort
import Derived.Test.YtcflacjidabppaaF56
import Derived.Test.YtcflacjidabppaaGEndT
import Derived.Test.YtcflacjidabppaaGFn
import Derived.Test.YtcflacjidabppaaGSizes
namespace Go.Proofs.Ytcflacjidabppaa.Pr
open Go.RowKit Go.Proofs.YtcflacjidabppaaW.PrintWords Go.Proofs.YtcflacjidabppaaW.PrintLast Go.Proofs.YtcflacjidabppaaW.PrintMore
attribute [local go_sem] max2_int min2_int max_two min_two max_three min_three max_four min_four   -- for this text's walks alone
set_option linter.unusedVariables false
set_option linter.unusedSimpArgs false

/-! ### planner_plan: function 35 -/
mutual
def planner_plan.l0 (sums : List Int) (last : Int) : Nat → Int → List Int → Int → Int → List Int → List Int → Int → Int → Int → List Int → List Int → List Int → List Int → Int → Option (List Int × List Int × List Int × List Int × Int × Int)
 | 0, _, _, _, _, _, _, _, _, _, _, _, _, _, _ => none
 | k + 1, x7, x15, x16, x17, eU, eV, dC, eN, eO, dD, dE, dF, dG, eP => if x17 < x16 then (if 0 ≤ x17 then (if x17 < (x15.length : Int) then ((endF sums last (mx (wrap64 ((wrap64 (x17 + 1)) * dC)) x7) (rd x15 x17)).bind fun cX => (if cX.2 = true then ((some (([wrap64 ((wrap64 (x17 + 1)) * dC)] : List Int) : List Int)).bind fun y125 => (if dD.length + y125.length < 17592186044416 then ((some (([mx (wrap64 ((wrap64 (x17 + 1)) * dC)) x7] : List Int) : List Int)).bind fun y131 => (if dE.length + y131.length < 17592186044416 then (planner_plan.j1 sums last k cX.1 cX.1 x15 x16 x17 eU eV dC eN eO (dD ++ y125) (dE ++ y131) dF dG eP) else (none))) else (none))) else (some (([] : List Int), ([] : List Int), ([] : List Int), ([] : List Int), 0, 21)))) else (none)) else (none)) else ((planner_bound.f k dD dE dF dG eP).bind fun t121 => (some (dD, dE, dF, dG, t121, 0)))
def planner_plan.j1 (sums : List Int) (last : Int) : Nat → Int → Int → List Int → Int → Int → List Int → List Int → Int → Int → Int → List Int → List Int → List Int → List Int → Int → Option (List Int × List Int × List Int × List Int × Int × Int)
 | 0, _, _, _, _, _, _, _, _, _, _, _, _, _, _, _ => none
 | k + 1, x7, x12, x15, x16, x17, eU, eV, dC, eN, eO, dD, dE, dF, dG, eP => (some (([x12] : List Int) : List Int)).bind fun y137 => (if dF.length + y137.length < 17592186044416 then ((some (([wrap64 ((wrap64 (x12 + eN)) + eO)] : List Int) : List Int)).bind fun y143 => (if dG.length + y143.length < 17592186044416 then (planner_plan.l0 sums last k x7 x15 x16 (wrap64 (x17 + 1)) eU eV dC eN eO dD dE (dF ++ y137) (dG ++ y143) eP) else (none))) else (none))
end
def planner_plan.f (k : Nat) (bI : List Int) (bJ : List Int) (aW : Int) (aX : Int) (aY : Int) (a1 : Nat) (sums : List Int) (last : Int) : Option (List Int × List Int × List Int × List Int × Int × Int) := (planner_sizes.f bI bJ aW aX aY).bind fun t118 => (planner_plan.l0 sums last k 0 t118 (t118.length : Int) 0 bI bJ aW aX aY ([] : List Int) ([] : List Int) ([] : List Int) ([] : List Int) 0)
theorem planner_plan.mono_l (sums : List Int) (last : Int) : ∀ k, (∀ y0 y1 y2 y3 y4 y5 y6 y7 y8 y9 y10 y11 y12 y13, LeO (planner_plan.l0 sums last k y0 y1 y2 y3 y4 y5 y6 y7 y8 y9 y10 y11 y12 y13) (planner_plan.l0 sums last (k + 1) y0 y1 y2 y3 y4 y5 y6 y7 y8 y9 y10 y11 y12 y13)) ∧ (∀ y0 y1 y2 y3 y4 y5 y6 y7 y8 y9 y10 y11 y12 y13 y14, LeO (planner_plan.j1 sums last k y0 y1 y2 y3 y4 y5 y6 y7 y8 y9 y10 y11 y12 y13 y14) (planner_plan.j1 sums last (k + 1) y0 y1 y2 y3 y4 y5 y6 y7 y8 y9 y10 y11 y12 y13 y14))
 | 0 => ⟨fun _ _ _ _ _ _ _ _ _ _ _ _ _ _ r h => by simp [planner_plan.l0] at h, fun _ _ _ _ _ _ _ _ _ _ _ _ _ _ _ r h => by simp [planner_plan.j1] at h⟩
 | k + 1 => by
  obtain ⟨ih0, ih1⟩ := planner_plan.mono_l sums last k
  refine ⟨?_, ?_⟩
  ·intro y0 y1 y2 y3 y4 y5 y6 y7 y8 y9 y10 y11 y12 y13
   unfold planner_plan.l0
   repeat' first
   | (with_reducible exact ih0 _ _ _ _ _ _ _ _ _ _ _ _ _ _)
   | (with_reducible exact ih1 _ _ _ _ _ _ _ _ _ _ _ _ _ _ _)
   | (with_reducible exact planner_bound.mono _ _ _ _ _ _)
   | (with_reducible exact LeO.refl _)
   | (with_reducible exact LeO.none _)
   | (with_reducible refine LeO.ite ?_ ?_)
   | (with_reducible refine LeO.bind ?_ (fun _ => ?_))
   | exact ih0 _ _ _ _ _ _ _ _ _ _ _ _ _ _
   | exact ih1 _ _ _ _ _ _ _ _ _ _ _ _ _ _ _
   | exact planner_bound.mono _ _ _ _ _ _
   | exact LeO.none _
   | refine LeO.ite ?_ ?_
   | refine LeO.bind ?_ (fun _ => ?_)
  ·intro y0 y1 y2 y3 y4 y5 y6 y7 y8 y9 y10 y11 y12 y13 y14
   unfold planner_plan.j1
   repeat' first
   | (with_reducible exact ih0 _ _ _ _ _ _ _ _ _ _ _ _ _ _)
   | (with_reducible exact ih1 _ _ _ _ _ _ _ _ _ _ _ _ _ _ _)
   | (with_reducible exact planner_bound.mono _ _ _ _ _ _)
   | (with_reducible exact LeO.refl _)
   | (with_reducible exact LeO.none _)
   | (with_reducible refine LeO.ite ?_ ?_)
   | (with_reducible refine LeO.bind ?_ (fun _ => ?_))
   | exact ih0 _ _ _ _ _ _ _ _ _ _ _ _ _ _
   | exact ih1 _ _ _ _ _ _ _ _ _ _ _ _ _ _ _
   | exact planner_bound.mono _ _ _ _ _ _
   | exact LeO.none _
   | refine LeO.ite ?_ ?_
   | refine LeO.bind ?_ (fun _ => ?_)
theorem planner_plan.mono (sums : List Int) (last : Int) : ∀ a0 a1 a2 a3 a4 a5 k, LeO (planner_plan.f k a0 a1 a2 a3 a4 a5 sums last) (planner_plan.f (k + 1) a0 a1 a2 a3 a4 a5 sums last) := by
 intro a0 a1 a2 a3 a4 a5 k
 obtain ⟨ih0, ih1⟩ := planner_plan.mono_l sums last k
 unfold planner_plan.f
 repeat' first
   | (with_reducible exact ih0 _ _ _ _ _ _ _ _ _ _ _ _ _ _)
   | (with_reducible exact ih1 _ _ _ _ _ _ _ _ _ _ _ _ _ _ _)
   | (with_reducible exact planner_bound.mono _ _ _ _ _ _)
   | (with_reducible exact LeO.refl _)
   | (with_reducible exact LeO.none _)
   | (with_reducible refine LeO.ite ?_ ?_)
   | (with_reducible refine LeO.bind ?_ (fun _ => ?_))
   | exact ih0 _ _ _ _ _ _ _ _ _ _ _ _ _ _
   | exact ih1 _ _ _ _ _ _ _ _ _ _ _ _ _ _ _
   | exact planner_bound.mono _ _ _ _ _ _
   | exact LeO.none _
   | refine LeO.ite ?_ ?_
   | refine LeO.bind ?_ (fun _ => ?_)
def planner_plan.T12 : Bool × List (List Nat × List Nat) := (true, [([], []), ([0], [0]), ([], []), ([2], [2]), ([1, 3], [1, 3]), ([], []), ([5], [5]), ([], []), ([7], [7]), ([6, 8, 4], [6, 8]), ([0, 1, 2, 3, 4, 5, 6], []), ([10, 4, 9, 0, 1, 2, 3, 4, 5, 6], [4, 10]), ([0, 1, 2, 3, 4, 5, 6, 7, 8, 9, 10, 11], []), ([12, 9, 11, 0, 1, 2, 3, 4, 5, 6, 7, 8, 9, 10, 11], [9, 12])])
def planner_plan.B12 : List Nat := [0, 1, 0, 4, 15, 0, 32, 0, 128, 511, 127, 2047, 4095, 8191]
theorem planner_plan.tab12 : rtab .any (opsOf Try.f35 12) = planner_plan.T12 := by kernel_rfl
theorem planner_plan.bits12 : waitsOk planner_plan.T12.2 planner_plan.B12 = true := by kernel_rfl
def planner_plan.T13 : Bool × List (List Nat × List Nat) := (true, [([], []), ([0], [0]), ([], []), ([2], [2]), ([1, 3], [1, 3]), ([], []), ([5], [5]), ([], []), ([], []), ([8], [8]), ([7, 9], [7, 9]), ([], []), ([11], [11]), ([10, 12], [10, 12]), ([13], [13]), ([6, 14, 4], [6, 14]), ([0, 1, 2, 3, 4, 5, 6], []), ([16, 4, 15, 0, 1, 2, 3, 4, 5, 6], [4, 16]), ([0, 1, 2, 3, 4, 5, 6, 7, 8, 9, 10, 11, 12, 13, 14, 15, 16, 17], []), ([18, 15, 17, 0, 1, 2, 3, 4, 5, 6, 7, 8, 9, 10, 11, 12, 13, 14, 15, 16, 17], [15, 18])])
def planner_plan.B13 : List Nat := [0, 1, 0, 4, 15, 0, 32, 0, 0, 256, 896, 0, 2048, 8064, 16256, 32767, 127, 131071, 262143, 524287]
theorem planner_plan.tab13 : rtab .any (opsOf Try.f35 13) = planner_plan.T13 := by kernel_rfl
theorem planner_plan.bits13 : waitsOk planner_plan.T13.2 planner_plan.B13 = true := by kernel_rfl
set_option maxHeartbeats 8000000 in
set_option maxRecDepth 100000 in
theorem planner_plan.calls (k : Nat) (bU : Option Addr) (bV : Nat) (bI : List Int) (bW : Option Addr) (bX : Nat) (bJ : List Int) (aW : Int) (aX : Int) (aY : Int) (a1 : Nat) (sums : List Int) (last : Int) (r1 : List Int) (r2 : List Int) (r3 : List Int) (r4 : List Int) (r5 : Int) (r6 : Int) (w : World) (fB : Kd.C (Kd.int .i64) w bU bI.length bI) (fC : bI.length ≤ bV) (fD : Kd.C (Kd.int .i64) w bW bJ.length bJ) (fE : bJ.length ≤ bX) (hcar : Car w a1 sums last) (hsm : Small sums last) (hup : Up sums) (h : planner_plan.f k bI bJ aW aX aY a1 sums last = some (r1, r2, r3, r4, r5, r6)) :
  Calls Try.prog 35 #[.agg #[.slice bU bI.length bV, .slice bW bJ.length bX, .int .i64 aW, .int .i64 aX, .int .i64 aY], .func (.func 37) #[.pointer (some ⟨a1, 0, none⟩)] #[]] w fun e w' => ∃ v0_ v1_ v2_ v3_ : Value, e = .returned (.tuple #[.agg #[v0_, v1_, v2_, v3_, .int .i64 r5], .int .i64 r6]) ∧ Kd.R (Kd.int .i64) 3 w' w.heap.size (fun k_ => some k_ ≠ (v1_ : Value).ownBlock ∧ some k_ ≠ (v2_ : Value).ownBlock ∧ some k_ ≠ (v3_ : Value).ownBlock) v0_ r1 ∧ Kd.R (Kd.int .i64) 3 w' w.heap.size (fun k_ => some k_ ≠ (v0_ : Value).ownBlock ∧ some k_ ≠ (v2_ : Value).ownBlock ∧ some k_ ≠ (v3_ : Value).ownBlock) v1_ r2 ∧ Kd.R (Kd.int .i64) 3 w' w.heap.size (fun k_ => some k_ ≠ (v0_ : Value).ownBlock ∧ some k_ ≠ (v1_ : Value).ownBlock ∧ some k_ ≠ (v3_ : Value).ownBlock) v2_ r3 ∧ Kd.R (Kd.int .i64) 3 w' w.heap.size (fun k_ => some k_ ≠ (v0_ : Value).ownBlock ∧ some k_ ≠ (v1_ : Value).ownBlock ∧ some k_ ≠ (v2_ : Value).ownBlock) v3_ r4 ∧ Below w.heap.size w w' := by
 have HCAR := Aside0.mk (show ∀ W, Below w.heap.size w W → Car W a1 sums last from fun W hW => hcar.below hW)
 have HSM := Aside0.mk hsm
 have HUP := Aside0.mk hup
 clear hcar hsm hup
 have hu24 := Try.underlying24
 have hu28 := Try.underlying28
 have fR := Aside0.mk fB
 have fS := Aside0.mk fC
 clear fB fC
 have fT := Aside0.mk fD
 have fU := Aside0.mk fE
 clear fD fE
 have HB := Aside0.mk (Below.refl w.heap.size w)
 have H : ((planner_sizes.f bI bJ aW aX aY).bind fun t118 => (planner_plan.l0 sums last k 0 t118 (t118.length : Int) 0 bI bJ aW aX aY ([] : List Int) ([] : List Int) ([] : List Int) ([] : List Int) 0)) = some (r1, r2, r3, r4, r5, r6) := h
 clear h
 replace H := Option.bind_eq_some_iff.mp H
 obtain ⟨t118, A30, H⟩ := H
 replace H : (planner_plan.l0 sums last k 0 t118 (t118.length : Int) 0 bI bJ aW aX aY ([] : List Int) ([] : List Int) ([] : List Int) ([] : List Int) 0) = some (r1, r2, r3, r4, r5, r6) := H
 have A3 := Aside0.mk A30
 clear A30
 have H' := Aside0.mk H
 clear H
 go_enter Try.func35, Try.ntmps35
 go_wp2_with (first | ((with_reducible refine gate_dst (N := 2) rfl ?_); refine box_event ?hg (N := 2) ?hd (cs := #[.slice bU bI.length bV, .slice bW bJ.length bX, .int .i64 aW, .int .i64 aX, .int .i64 aY]) (t := 24) ?hr ?_; (case hd => rfl); (case hg => rfl); (case hr => first | (go_simp; done) | (go_simp; rfl)); intro bB hg w4 hbox hb; have n0_ := Aside0.mk (below_step (qW HB.out) hb); have n1_ := Aside0.mk (hbox); have n2_ := Aside0.mk ((by rw [hg]; exact (below_size (qW HB.out)) : w.heap.size ≤ bB)); have n3_ := Aside0.mk ((by rw [hg]; exact (below_size (qW HB.out)) : w.heap.size ≤ bB)); clear HB; have HB := n0_; have aC := n1_; have gU := n2_; have dY := n3_; clear n0_ n1_ n2_ n3_ hb hbox hg) | ((with_reducible refine gate_dst (N := 4) rfl ?_); refine box_event ?hg (N := 4) ?hd (cs := #[.slice none 0 0, .slice none 0 0, .slice none 0 0, .slice none 0 0, .int .i64 0]) (t := 28) ?hr ?_; (case hd => rfl); (case hg => rfl); (case hr => first | (go_simp; done) | (go_simp; rfl)); intro bA hg w5 hbox hb; have n0_ := Aside0.mk (blk_below (qB aC.out) hb); have n1_ := Aside0.mk (below_step (qW HB.out) hb); have n2_ := Aside0.mk (hbox); have n3_ := Aside0.mk ((by rw [hg]; exact (below_size (qW HB.out)) : w.heap.size ≤ bA)); have n4_ := Aside0.mk ((by rw [hg]; exact (below_size (qW HB.out)) : w.heap.size ≤ bA)); have n5_ := Aside0.mk ((by rw [hg]; exact Nat.ne_of_lt (blk_lt (qB aC.out)) : bB ≠ bA)); have n6_ := Aside0.mk ((by rw [hg]; exact Nat.ne_of_gt (blk_lt (qB aC.out)) : bA ≠ bB)); clear aC HB; have aC := n0_; have HB := n1_; have aD := n2_; have gV := n3_; have dZ := n4_; have eQ := n5_; have eR := n6_; clear n0_ n1_ n2_ n3_ n4_ n5_ n6_ hb hbox hg) | ((with_reducible refine gate_dst (N := 6) rfl ?_); refine box_event ?hg (N := 6) ?hd (cs := #[.slice none 0 0, .slice none 0 0, .slice none 0 0, .slice none 0 0, .int .i64 0]) (t := 28) ?hr ?_; (case hd => rfl); (case hg => rfl); (case hr => first | (go_simp; done) | (go_simp; rfl)); intro aM hg w6 hbox hb; have n0_ := Aside0.mk (blk_below (qB aC.out) hb); have n1_ := Aside0.mk (blk_below (qB aD.out) hb); have n2_ := Aside0.mk (below_step (qW HB.out) hb); have n3_ := Aside0.mk (hbox); have n4_ := Aside0.mk ((by rw [hg]; exact (below_size (qW HB.out)) : w.heap.size ≤ aM)); have n5_ := Aside0.mk ((by rw [hg]; exact (below_size (qW HB.out)) : w.heap.size ≤ aM)); have n6_ := Aside0.mk ((by rw [hg]; exact Nat.ne_of_lt (blk_lt (qB aC.out)) : bB ≠ aM)); have n7_ := Aside0.mk ((by rw [hg]; exact Nat.ne_of_gt (blk_lt (qB aC.out)) : aM ≠ bB)); have n8_ := Aside0.mk ((by rw [hg]; exact Nat.ne_of_lt (blk_lt (qB aD.out)) : bA ≠ aM)); have n9_ := Aside0.mk ((by rw [hg]; exact Nat.ne_of_gt (blk_lt (qB aD.out)) : aM ≠ bA)); clear aC aD HB; have aC := n0_; have aD := n1_; have HB := n2_; have aA := n3_; have gW := n4_; have eA := n5_; have cE := n6_; have cU := n7_; have cF := n8_; have dH := n9_; clear n0_ n1_ n2_ n3_ n4_ n5_ n6_ n7_ n8_ n9_ hb hbox hg; have gX := eQ.out; have gY := eR.out; have gZ := cE.out; have hA := cU.out; have fV : w6.cell? ⟨bB, 0, none⟩ = some (.slice bU bI.length bV) := (blk_cell aC.out 0).trans rfl; have fW : w6.cell? ⟨bB, 1, none⟩ = some (.slice bW bJ.length bX) := (blk_cell aC.out 1).trans rfl; have fX : w6.cell? ⟨bB, 2, none⟩ = some (.int .i64 aW) := (blk_cell aC.out 2).trans rfl; have fY : w6.cell? ⟨bB, 3, none⟩ = some (.int .i64 aX) := (blk_cell aC.out 3).trans rfl; have fZ : w6.cell? ⟨bB, 4, none⟩ = some (.int .i64 aY) := (blk_cell aC.out 4).trans rfl; have gA := blk_frozen aC.out 0; have gB := blk_frozen aC.out 1; have gC := blk_frozen aC.out 2; have gD := blk_frozen aC.out 3; have gE := blk_frozen aC.out 4) | ((with_reducible refine gate_callee (f := 55) rfl ?_); refine goesL_ (some 15) rfl rfl Try.func55 (by kernel_rfl) rfl #[.agg #[.slice bU bI.length bV, .slice bW bJ.length bX, .int .i64 aW, .int .i64 aX, .int .i64 aY]] rfl (by (try simp only [List.map_toArray, List.map_cons, List.map_nil]); first | done | rfl | (simp only [List.length_drop, List.length_take]; rfl)) ?_; (with_reducible refine (planner_sizes.calls _ _ bI _ _ bJ aW aX aY t118 _ ?side1 ?side2 ?side3 ?side4 A3.out).mono ?_); (case side1 => exact qC fR.out HB.out); (case side2 => exact fS.out); (case side3 => exact qC fT.out HB.out); (case side4 => exact fU.out); rintro e w10 ⟨v119, rfl, ho0, hb⟩; refine ⟨_, rfl, ?_⟩; have n0_ := Aside0.mk (Kd.R_lower ho0 (below_size (qW HB.out))); have n1_ := Aside0.mk (blk_below (qB aC.out) hb); have n2_ := Aside0.mk (blk_below (qB aD.out) hb); have n3_ := Aside0.mk (blk_below (qB aA.out) hb); have n4_ := Aside0.mk (below_step (qW HB.out) hb); clear aC aD aA HB; have fF := n0_; have aC := n1_; have aD := n2_; have aA := n3_; have HB := n4_; clear n0_ n1_ n2_ n3_ n4_; (try clear hb); (try clear hb2); (try clear hk); (try clear hi); (try clear ho0); obtain ⟨eB, aK, gF⟩ := Kd.R_slice fF.out; subst gF))
 go_loopg [7, 17] k (fun kq v7 v17 w' => ∃ (dI : Int) (aZ : Int) (bT : Int) (bK : List Int) (aP : List Int) (bC : List Int) (aN : List Int) (aQ : Value) (aT : Value) (aU : Value) (aV : Value), v7 = .int .i64 dI ∧ v17 = .int .i64 aZ ∧ Aside0 (planner_plan.l0 sums last kq dI t118 (t118.length : Int) aZ bI bJ aW aX aY bK aP bC aN 0 = some (r1, r2, r3, r4, r5, r6)) ∧ Aside0 (kq ≤ k) ∧ Aside0 (Kd.R (Kd.int .i64) 3 w' w.heap.size (fun k_ => some k_ ≠ (aQ : Value).ownBlock ∧ some k_ ≠ (aT : Value).ownBlock ∧ some k_ ≠ (aU : Value).ownBlock ∧ some k_ ≠ (aV : Value).ownBlock) (.slice eB t118.length aK) t118) ∧ Aside0 (Kd.R (Kd.int .i64) 3 w' w.heap.size (fun k_ => some k_ ≠ ((.slice eB t118.length aK) : Value).ownBlock ∧ some k_ ≠ (aT : Value).ownBlock ∧ some k_ ≠ (aU : Value).ownBlock ∧ some k_ ≠ (aV : Value).ownBlock) aQ bK) ∧ Aside0 (Kd.R (Kd.int .i64) 3 w' w.heap.size (fun k_ => some k_ ≠ ((.slice eB t118.length aK) : Value).ownBlock ∧ some k_ ≠ (aQ : Value).ownBlock ∧ some k_ ≠ (aU : Value).ownBlock ∧ some k_ ≠ (aV : Value).ownBlock) aT aP) ∧ Aside0 (Kd.R (Kd.int .i64) 3 w' w.heap.size (fun k_ => some k_ ≠ ((.slice eB t118.length aK) : Value).ownBlock ∧ some k_ ≠ (aQ : Value).ownBlock ∧ some k_ ≠ (aT : Value).ownBlock ∧ some k_ ≠ (aV : Value).ownBlock) aU bC) ∧ Aside0 (Kd.R (Kd.int .i64) 3 w' w.heap.size (fun k_ => some k_ ≠ ((.slice eB t118.length aK) : Value).ownBlock ∧ some k_ ≠ (aQ : Value).ownBlock ∧ some k_ ≠ (aT : Value).ownBlock ∧ some k_ ≠ (aU : Value).ownBlock) aV aN) ∧ Aside0 (w'.heap[bB]? = some (.cells #[(.slice bU bI.length bV), (.slice bW bJ.length bX), .int .i64 aW, .int .i64 aX, .int .i64 aY] 24 (0, 0))) ∧ Aside0 (w'.heap[bA]? = some (.cells #[(.slice none 0 0), (.slice none 0 0), (.slice none 0 0), (.slice none 0 0), .int .i64 bT] 28 (0, 0))) ∧ Aside0 (w'.heap[aM]? = some (.cells #[aQ, aT, aU, aV, .int .i64 0] 28 (0, 0))) ∧ Aside0 (Below w.heap.size w w'))
 case atStart => exact ⟨(0), (0), (0), (([] : List Int)), (([] : List Int)), (([] : List Int)), (([] : List Int)), (.slice none 0 0), (.slice none 0 0), (.slice none 0 0), (.slice none 0 0), (by first | rfl | (simp; done) | (simp [*]; done)), (by first | rfl | (simp; done) | (simp [*]; done)), H', ⟨Nat.le_refl _⟩, ⟨by exact qR (Kd.R_mono fF.out (fun _ hk => ⟨(by simp [Value.ownBlock]), ⟨(by simp [Value.ownBlock]), ⟨(by simp [Value.ownBlock]), (by simp [Value.ownBlock])⟩⟩⟩))⟩, ⟨by first | exact Kd.R_nil _ _ _ _ _ | exact Kd.N_nil _ _ _ _ _ | exact Kd.V_nil _ _ _ _ _ | exact Kd.Q_nil _ _ _ _ _ | exact Kd.S_nil _ _ _ _ _⟩, ⟨by first | exact Kd.R_nil _ _ _ _ _ | exact Kd.N_nil _ _ _ _ _ | exact Kd.V_nil _ _ _ _ _ | exact Kd.Q_nil _ _ _ _ _ | exact Kd.S_nil _ _ _ _ _⟩, ⟨by first | exact Kd.R_nil _ _ _ _ _ | exact Kd.N_nil _ _ _ _ _ | exact Kd.V_nil _ _ _ _ _ | exact Kd.Q_nil _ _ _ _ _ | exact Kd.S_nil _ _ _ _ _⟩, ⟨by first | exact Kd.R_nil _ _ _ _ _ | exact Kd.N_nil _ _ _ _ _ | exact Kd.V_nil _ _ _ _ _ | exact Kd.Q_nil _ _ _ _ _ | exact Kd.S_nil _ _ _ _ _⟩, ⟨by exact qB aC.out⟩, ⟨by exact qB aD.out⟩, ⟨by exact qB aA.out⟩, ⟨by repeat (first | (with_reducible first | exact HB.out | apply below_alloc | apply pw_below_drewN | apply below_drew1 | refine below_set ?_ dY.out | refine below_set ?_ dZ.out | refine below_set ?_ eA.out) | exact HB.out)⟩⟩
 case round =>
  clear H'
  try clear p2
  try clear c3
  try clear c5
  try clear c7
  try clear c8
  try clear fV
  try clear fW
  try clear fX
  try clear fY
  try clear fZ
  try clear gA
  try clear gB
  try clear gC
  try clear gD
  try clear gE
  obtain ⟨dI, aZ, bT, bK, aP, bC, aN, aQ, aT, aU, aV, rfl, rfl, HA, HK1, aH, aI, aE, aJ, aG, aC, aD, aA, HB⟩ := hrel
  cases gk with
  | zero => exact absurd HA.out (by simp [planner_plan.l0])
  | succ k1 =>
   have H := HA.out
   clear HA
   simp only [planner_plan.l0] at H
   by_cases c12 : aZ < (t118.length : Int)
   case neg =>
    rw [if_neg c12] at H
    have gG : decide (aZ < (t118.length : Int)) = false := decide_eq_false c12
    clear c12
    replace H := Option.bind_eq_some_iff.mp H
    obtain ⟨t121, A650, H⟩ := H
    replace H : (some (bK, aP, bC, aN, t121, 0)) = some (r1, r2, r3, r4, r5, r6) := H
    have A65 := Aside0.mk A650
    clear A650
    simp only [Option.some.injEq, Prod.mk.injEq] at H
    obtain ⟨rfl, rfl, rfl, rfl, rfl, rfl⟩ := H
    have hB := cU.out
    have hC := cE.out
    have hD := dH.out
    have hE := cF.out
    have hF : wr.cell? ⟨aM, 0, none⟩ = some (aQ) := (blk_cell aA.out 0).trans rfl
    have hG : wr.cell? ⟨aM, 1, none⟩ = some (aT) := (blk_cell aA.out 1).trans rfl
    have hH : wr.cell? ⟨aM, 2, none⟩ = some (aU) := (blk_cell aA.out 2).trans rfl
    have hI : wr.cell? ⟨aM, 3, none⟩ = some (aV) := (blk_cell aA.out 3).trans rfl
    have hJ : wr.cell? ⟨aM, 4, none⟩ = some (.int .i64 0) := (blk_cell aA.out 4).trans rfl
    have hL := blk_frozen aA.out 0
    have hM := blk_frozen aA.out 1
    have hN := blk_frozen aA.out 2
    have hO := blk_frozen aA.out 3
    have hP := blk_frozen aA.out 4
    obtain ⟨cG, cH, gH⟩ := Kd.R_slice aI.out
    subst gH
    obtain ⟨cK, cL, gI⟩ := Kd.R_slice aE.out
    subst gI
    obtain ⟨cS, cT, gJ⟩ := Kd.R_slice aJ.out
    subst gJ
    obtain ⟨cV, cW, gK⟩ := Kd.R_slice aG.out
    subst gK
    go_wp2_with (first | ((with_reducible refine gate_callee (f := 56) rfl ?_); refine goesL_ (some 73) rfl rfl Try.func56 (by kernel_rfl) rfl #[.agg #[.slice cG bK.length cH, .slice cK aP.length cL, .slice cS bC.length cT, .slice cV aN.length cW, .int .i64 0]] rfl (by (try simp only [List.map_toArray, List.map_cons, List.map_nil]); first | done | rfl | (simp only [List.length_drop, List.length_take]; rfl)) ?_; (with_reducible refine (planner_bound.calls k1 _ _ bK _ _ aP _ _ bC _ _ aN 0 t121 _ ?side1 ?side2 ?side3 ?side4 ?side5 ?side6 ?side7 ?side8 A65.out).mono ?_); (case side1 => repeat (first | exact (Kd.R_reads' aI.out).2.2 | (with_reducible refine Kd.C_alloc ?_ _) | (with_reducible refine Kd.C_drewN ?_ _) | (with_reducible refine Kd.C_drew ?_))); (case side2 => exact (Kd.R_reads' aI.out).2.1); (case side3 => repeat (first | exact (Kd.R_reads' aE.out).2.2 | (with_reducible refine Kd.C_alloc ?_ _) | (with_reducible refine Kd.C_drewN ?_ _) | (with_reducible refine Kd.C_drew ?_))); (case side4 => exact (Kd.R_reads' aE.out).2.1); (case side5 => repeat (first | exact (Kd.R_reads' aJ.out).2.2 | (with_reducible refine Kd.C_alloc ?_ _) | (with_reducible refine Kd.C_drewN ?_ _) | (with_reducible refine Kd.C_drew ?_))); (case side6 => exact (Kd.R_reads' aJ.out).2.1); (case side7 => repeat (first | exact (Kd.R_reads' aG.out).2.2 | (with_reducible refine Kd.C_alloc ?_ _) | (with_reducible refine Kd.C_drewN ?_ _) | (with_reducible refine Kd.C_drew ?_))); (case side8 => exact (Kd.R_reads' aG.out).2.1); rintro e w73 ⟨rfl, hb⟩; refine ⟨_, rfl, ?_⟩; have n0_ := Aside0.mk (Kd.R_below (qR aH.out) hb); have n1_ := Aside0.mk (Kd.R_below (qR aI.out) hb); have n2_ := Aside0.mk (Kd.R_below (qR aE.out) hb); have n3_ := Aside0.mk (Kd.R_below (qR aJ.out) hb); have n4_ := Aside0.mk (Kd.R_below (qR aG.out) hb); have n5_ := Aside0.mk (blk_below (qB aC.out) hb); have n6_ := Aside0.mk (blk_below (qB aD.out) hb); have n7_ := Aside0.mk (blk_below (qB aA.out) hb); have n8_ := Aside0.mk (below_step (qW HB.out) hb); clear aH aI aE aJ aG aC aD aA HB; have aH := n0_; have aI := n1_; have aE := n2_; have aJ := n3_; have aG := n4_; have aC := n5_; have aD := n6_; have aA := n7_; have HB := n8_; clear n0_ n1_ n2_ n3_ n4_ n5_ n6_ n7_ n8_; (try clear hb); (try clear hb2); (try clear hk); (try clear hi); have hQ : w73.cell? ⟨aM, 0, none⟩ = some (.slice cG bK.length cH) := (blk_cell aA.out 0).trans rfl; have hR : w73.cell? ⟨aM, 1, none⟩ = some (.slice cK aP.length cL) := (blk_cell aA.out 1).trans rfl; have hS : w73.cell? ⟨aM, 2, none⟩ = some (.slice cS bC.length cT) := (blk_cell aA.out 2).trans rfl; have hT : w73.cell? ⟨aM, 3, none⟩ = some (.slice cV aN.length cW) := (blk_cell aA.out 3).trans rfl; have hU : w73.cell? ⟨aM, 4, none⟩ = some (.int .i64 0) := (blk_cell aA.out 4).trans rfl; have hV := blk_frozen aA.out 0; have hX := blk_frozen aA.out 1; have hY := blk_frozen aA.out 2; have hZ := blk_frozen aA.out 3; have iA := blk_frozen aA.out 4; have iB := eR.out; have iC := eQ.out; have iD : w73.cell? ⟨bA, 0, none⟩ = some (.slice none 0 0) := (blk_cell aD.out 0).trans rfl; have iE : w73.cell? ⟨bA, 1, none⟩ = some (.slice none 0 0) := (blk_cell aD.out 1).trans rfl; have iF : w73.cell? ⟨bA, 2, none⟩ = some (.slice none 0 0) := (blk_cell aD.out 2).trans rfl; have iG : w73.cell? ⟨bA, 3, none⟩ = some (.slice none 0 0) := (blk_cell aD.out 3).trans rfl; have iH : w73.cell? ⟨bA, 4, none⟩ = some (.int .i64 bT) := (blk_cell aD.out 4).trans rfl; have iI := blk_frozen aD.out 0; have iJ := blk_frozen aD.out 1; have iK := blk_frozen aD.out 2; have iL := blk_frozen aD.out 3; have iM := blk_frozen aD.out 4))
    refine bodyPost_ret (results_ct rfl _ _ bA 28 #[.slice cG bK.length cH, .slice cK aP.length cL, .slice cS bC.length cT, .slice cV aN.length cW, .int .i64 t121] (0, 0) _ rfl (by (with_reducible repeat (first | refine blk_drewN ?_ _ | refine blk_drew ?_ | refine blk_alloc ?_ _)); refine blk_put (cs := #[.slice cG bK.length cH, .slice cK aP.length cL, .slice cS bC.length cT, .slice cV aN.length cW, .int .i64 bT]) ?_ 4 _ rfl; (with_reducible repeat (first | refine blk_drewN ?_ _ | refine blk_drew ?_ | refine blk_alloc ?_ _)); refine blk_put (cs := #[.slice cG bK.length cH, .slice cK aP.length cL, .slice cS bC.length cT, .slice none 0 0, .int .i64 bT]) ?_ 3 _ rfl; (with_reducible repeat (first | refine blk_drewN ?_ _ | refine blk_drew ?_ | refine blk_alloc ?_ _)); refine blk_put (cs := #[.slice cG bK.length cH, .slice cK aP.length cL, .slice none 0 0, .slice none 0 0, .int .i64 bT]) ?_ 2 _ rfl; (with_reducible repeat (first | refine blk_drewN ?_ _ | refine blk_drew ?_ | refine blk_alloc ?_ _)); refine blk_put (cs := #[.slice cG bK.length cH, .slice none 0 0, .slice none 0 0, .slice none 0 0, .int .i64 bT]) ?_ 1 _ rfl; (with_reducible repeat (first | refine blk_drewN ?_ _ | refine blk_drew ?_ | refine blk_alloc ?_ _)); refine blk_put (cs := #[.slice none 0 0, .slice none 0 0, .slice none 0 0, .slice none 0 0, .int .i64 bT]) ?_ 0 _ rfl; (with_reducible repeat (first | refine blk_drewN ?_ _ | refine blk_drew ?_ | refine blk_alloc ?_ _)); refine blk_far ?_ cF.out _; exact qB aD.out) Try.underlying28 rfl (by kernel_rfl)) rfl ?_
    exact ⟨_, _, _, _, by first | rfl | (simp [errW_none, errW_some] <;> rfl) | (simp [*, errW_none, errW_some] <;> rfl), by exact qR (Kd.R_mono (Kd.R_far (p := ⟨bA, 4, none⟩) (Kd.R_far (p := ⟨bA, 3, none⟩) (Kd.R_far (p := ⟨bA, 2, none⟩) (Kd.R_far (p := ⟨bA, 1, none⟩) (Kd.R_far (p := ⟨bA, 0, none⟩) (Kd.R_far (p := ⟨aM, 4, none⟩) (Kd.R_types (Kd.R_types aI.out aA.out (by decide)) aD.out (by decide)) (fun _ hk => hk.1.2) (.int .i64 t121)) (fun _ hk => hk.2) (.slice cG bK.length cH)) (fun _ hk => hk.2) (.slice cK aP.length cL)) (fun _ hk => hk.2) (.slice cS bC.length cT)) (fun _ hk => hk.2) (.slice cV aN.length cW)) (fun _ hk => hk.2) (.int .i64 t121)) (fun _ hk => ⟨hk.1.1.2.1, ⟨hk.1.1.2.2.1, hk.1.1.2.2.2⟩⟩)), by exact qR (Kd.R_mono (Kd.R_far (p := ⟨bA, 4, none⟩) (Kd.R_far (p := ⟨bA, 3, none⟩) (Kd.R_far (p := ⟨bA, 2, none⟩) (Kd.R_far (p := ⟨bA, 1, none⟩) (Kd.R_far (p := ⟨bA, 0, none⟩) (Kd.R_far (p := ⟨aM, 4, none⟩) (Kd.R_types (Kd.R_types aE.out aA.out (by decide)) aD.out (by decide)) (fun _ hk => hk.1.2) (.int .i64 t121)) (fun _ hk => hk.2) (.slice cG bK.length cH)) (fun _ hk => hk.2) (.slice cK aP.length cL)) (fun _ hk => hk.2) (.slice cS bC.length cT)) (fun _ hk => hk.2) (.slice cV aN.length cW)) (fun _ hk => hk.2) (.int .i64 t121)) (fun _ hk => ⟨hk.1.1.2.1, ⟨hk.1.1.2.2.1, hk.1.1.2.2.2⟩⟩)), by exact qR (Kd.R_mono (Kd.R_far (p := ⟨bA, 4, none⟩) (Kd.R_far (p := ⟨bA, 3, none⟩) (Kd.R_far (p := ⟨bA, 2, none⟩) (Kd.R_far (p := ⟨bA, 1, none⟩) (Kd.R_far (p := ⟨bA, 0, none⟩) (Kd.R_far (p := ⟨aM, 4, none⟩) (Kd.R_types (Kd.R_types aJ.out aA.out (by decide)) aD.out (by decide)) (fun _ hk => hk.1.2) (.int .i64 t121)) (fun _ hk => hk.2) (.slice cG bK.length cH)) (fun _ hk => hk.2) (.slice cK aP.length cL)) (fun _ hk => hk.2) (.slice cS bC.length cT)) (fun _ hk => hk.2) (.slice cV aN.length cW)) (fun _ hk => hk.2) (.int .i64 t121)) (fun _ hk => ⟨hk.1.1.2.1, ⟨hk.1.1.2.2.1, hk.1.1.2.2.2⟩⟩)), by exact qR (Kd.R_mono (Kd.R_far (p := ⟨bA, 4, none⟩) (Kd.R_far (p := ⟨bA, 3, none⟩) (Kd.R_far (p := ⟨bA, 2, none⟩) (Kd.R_far (p := ⟨bA, 1, none⟩) (Kd.R_far (p := ⟨bA, 0, none⟩) (Kd.R_far (p := ⟨aM, 4, none⟩) (Kd.R_types (Kd.R_types aG.out aA.out (by decide)) aD.out (by decide)) (fun _ hk => hk.1.2) (.int .i64 t121)) (fun _ hk => hk.2) (.slice cG bK.length cH)) (fun _ hk => hk.2) (.slice cK aP.length cL)) (fun _ hk => hk.2) (.slice cS bC.length cT)) (fun _ hk => hk.2) (.slice cV aN.length cW)) (fun _ hk => hk.2) (.int .i64 t121)) (fun _ hk => ⟨hk.1.1.2.1, ⟨hk.1.1.2.2.1, hk.1.1.2.2.2⟩⟩)), by repeat (first | (with_reducible first | exact HB.out | apply below_alloc | apply pw_below_drewN | apply below_drew1 | refine below_set ?_ dY.out | refine below_set ?_ dZ.out | refine below_set ?_ eA.out) | exact HB.out)⟩

   rw [if_pos c12] at H
   have gG : decide (aZ < (t118.length : Int)) = true := decide_eq_true c12
   clear c12
   by_cases c13 : 0 ≤ aZ
   case neg =>
    rw [if_neg c13] at H
    exact absurd H (by simp)
   rw [if_pos c13] at H
   have iN : decide (0 ≤ aZ) = true := decide_eq_true c13
   clear c13
   by_cases c14 : aZ < (t118.length : Int)
   case neg =>
    rw [if_neg c14] at H
    exact absurd H (by simp)
   rw [if_pos c14] at H
   have iO : decide (aZ < (t118.length : Int)) = true := decide_eq_true c14
   clear c14
   obtain ⟨ji15, dJ⟩ : ∃ j_ : Int, (mx (wrap64 ((wrap64 (aZ + 1)) * aW)) dI) = j_ := ⟨_, rfl⟩
   replace H : ((endF sums last (ji15) (rd t118 aZ)).bind fun cX => (if cX.2 = true then ((some (([wrap64 ((wrap64 (aZ + 1)) * aW)] : List Int) : List Int)).bind fun y125 => (if bK.length + y125.length < 17592186044416 then ((some (([ji15] : List Int) : List Int)).bind fun y131 => (if aP.length + y131.length < 17592186044416 then (planner_plan.j1 sums last k1 cX.1 cX.1 t118 (t118.length : Int) aZ bI bJ aW aX aY (bK ++ y125) (aP ++ y131) bC aN 0) else (none))) else (none))) else (some (([] : List Int), ([] : List Int), ([] : List Int), ([] : List Int), 0, 21)))) = some (r1, r2, r3, r4, r5, r6) := by first | (rw [dJ] at H; exact H) | (simp only [dJ] at H ⊢; exact H)
   have iP : (if (wrap64 ((wrap64 (aZ + 1)) * aW)) < dI then dI else (wrap64 ((wrap64 (aZ + 1)) * aW))) = ji15 := dJ
   replace H := Option.bind_eq_some_iff.mp H
   obtain ⟨⟨t123, t124⟩, A160, H⟩ := H
   replace H : (if t124 = true then ((some (([wrap64 ((wrap64 (aZ + 1)) * aW)] : List Int) : List Int)).bind fun y125 => (if bK.length + y125.length < 17592186044416 then ((some (([ji15] : List Int) : List Int)).bind fun y131 => (if aP.length + y131.length < 17592186044416 then (planner_plan.j1 sums last k1 t123 t123 t118 (t118.length : Int) aZ bI bJ aW aX aY (bK ++ y125) (aP ++ y131) bC aN 0) else (none))) else (none))) else (some (([] : List Int), ([] : List Int), ([] : List Int), ([] : List Int), 0, 21))) = some (r1, r2, r3, r4, r5, r6) := H
   have A16 := Aside0.mk A160
   clear A160
   by_cases c17 : t124 = true
   case neg =>
    replace c17 := Bool.eq_false_iff.mpr c17
    subst c17
    have H1 : (some (([] : List Int), ([] : List Int), ([] : List Int), ([] : List Int), 0, 21)) = some (r1, r2, r3, r4, r5, r6) := by rw [if_neg (show ¬ (false = true) by decide)] at H; exact H
    clear H
    have H := H1
    clear H1
    simp only [Option.some.injEq, Prod.mk.injEq] at H
    obtain ⟨rfl, rfl, rfl, rfl, rfl, rfl⟩ := H
    have p122 : 0 ≤ (aZ : Int) := of_decide_eq_true (by first | (with_reducible assumption) | assumption)
    have q122 : aZ < (t118.length : Int) := of_decide_eq_true (by first | (with_reducible assumption) | assumption)
    obtain ⟨ad122, e122, gL⟩ := Kd.at_int (Kd.R_reads' aH.out).2.2 aZ p122 q122
    cases e122
    replace p122 := eq_true p122
    replace q122 := eq_true q122
    have iQ := eQ.out
    have iR := eR.out
    have iS := cE.out
    have iT := cU.out
    have iU : wr.cell? ⟨bB, 0, none⟩ = some (.slice bU bI.length bV) := (blk_cell aC.out 0).trans rfl
    have iV : wr.cell? ⟨bB, 1, none⟩ = some (.slice bW bJ.length bX) := (blk_cell aC.out 1).trans rfl
    have iW : wr.cell? ⟨bB, 2, none⟩ = some (.int .i64 aW) := (blk_cell aC.out 2).trans rfl
    have iX : wr.cell? ⟨bB, 3, none⟩ = some (.int .i64 aX) := (blk_cell aC.out 3).trans rfl
    have iY : wr.cell? ⟨bB, 4, none⟩ = some (.int .i64 aY) := (blk_cell aC.out 4).trans rfl
    have iZ := blk_frozen aC.out 0
    have jA := blk_frozen aC.out 1
    have jB := blk_frozen aC.out 2
    have jC := blk_frozen aC.out 3
    have jD := blk_frozen aC.out 4
    go_wp2_with (first | ((with_reducible refine gate_dst (N := 34) rfl ?_); refine goesM2_ (some 34) rfl rfl Try.func37 (by kernel_rfl) rfl (.pointer (some ⟨a1, 0, none⟩)) (.int .i64 ji15) (.int .i64 (rd t118 aZ)) rfl rfl (by (try simp only [List.map_toArray, List.map_cons, List.map_nil]); first | done | (simp only [dJ]; rfl) | rfl | (simp only [List.length_drop, List.length_take]; rfl)) ?_; (with_reducible refine (end_calls a1 sums last ji15 (rd t118 aZ) t123 false _ (HCAR.out _ (qW HB.out)) HSM.out HUP.out A16.out).mono ?_); rintro e w62 ⟨rfl, hb⟩; refine ⟨_, rfl, ?_⟩; have n0_ := Aside0.mk (Kd.R_below (qR aH.out) hb); have n1_ := Aside0.mk (Kd.R_below (qR aI.out) hb); have n2_ := Aside0.mk (Kd.R_below (qR aE.out) hb); have n3_ := Aside0.mk (Kd.R_below (qR aJ.out) hb); have n4_ := Aside0.mk (Kd.R_below (qR aG.out) hb); have n5_ := Aside0.mk (blk_below (qB aC.out) hb); have n6_ := Aside0.mk (blk_below (qB aD.out) hb); have n7_ := Aside0.mk (blk_below (qB aA.out) hb); have n8_ := Aside0.mk (below_step (qW HB.out) hb); clear aH aI aE aJ aG aC aD aA HB; have aH := n0_; have aI := n1_; have aE := n2_; have aJ := n3_; have aG := n4_; have aC := n5_; have aD := n6_; have aA := n7_; have HB := n8_; clear n0_ n1_ n2_ n3_ n4_ n5_ n6_ n7_ n8_; (try clear hb); (try clear hb2); (try clear hk); (try clear hi); have jE := cF.out; have jF := dH.out; have jG : w62.cell? ⟨bA, 0, none⟩ = some (.slice none 0 0) := (blk_cell aD.out 0).trans rfl; have jH : w62.cell? ⟨bA, 1, none⟩ = some (.slice none 0 0) := (blk_cell aD.out 1).trans rfl; have jI : w62.cell? ⟨bA, 2, none⟩ = some (.slice none 0 0) := (blk_cell aD.out 2).trans rfl; have jJ : w62.cell? ⟨bA, 3, none⟩ = some (.slice none 0 0) := (blk_cell aD.out 3).trans rfl; have jK : w62.cell? ⟨bA, 4, none⟩ = some (.int .i64 bT) := (blk_cell aD.out 4).trans rfl; have jL := blk_frozen aD.out 0; have jM := blk_frozen aD.out 1; have jN := blk_frozen aD.out 2; have jO := blk_frozen aD.out 3; have jP := blk_frozen aD.out 4))
    refine bodyPost_ret (results_ct rfl _ _ bA 28 #[.slice none 0 0, .slice none 0 0, .slice none 0 0, .slice none 0 0, .int .i64 0] (0, 0) _ rfl (by (with_reducible repeat (first | refine blk_drewN ?_ _ | refine blk_drew ?_ | refine blk_alloc ?_ _)); refine blk_put (cs := #[.slice none 0 0, .slice none 0 0, .slice none 0 0, .slice none 0 0, .int .i64 bT]) ?_ 4 _ rfl; (with_reducible repeat (first | refine blk_drewN ?_ _ | refine blk_drew ?_ | refine blk_alloc ?_ _)); refine blk_put (cs := #[.slice none 0 0, .slice none 0 0, .slice none 0 0, .slice none 0 0, .int .i64 bT]) ?_ 3 _ rfl; (with_reducible repeat (first | refine blk_drewN ?_ _ | refine blk_drew ?_ | refine blk_alloc ?_ _)); refine blk_put (cs := #[.slice none 0 0, .slice none 0 0, .slice none 0 0, .slice none 0 0, .int .i64 bT]) ?_ 2 _ rfl; (with_reducible repeat (first | refine blk_drewN ?_ _ | refine blk_drew ?_ | refine blk_alloc ?_ _)); refine blk_put (cs := #[.slice none 0 0, .slice none 0 0, .slice none 0 0, .slice none 0 0, .int .i64 bT]) ?_ 1 _ rfl; (with_reducible repeat (first | refine blk_drewN ?_ _ | refine blk_drew ?_ | refine blk_alloc ?_ _)); refine blk_put (cs := #[.slice none 0 0, .slice none 0 0, .slice none 0 0, .slice none 0 0, .int .i64 bT]) ?_ 0 _ rfl; exact qB aD.out) Try.underlying28 rfl (by kernel_rfl)) rfl ?_
    exact ⟨_, _, _, _, by first | rfl | (simp [errW_none, errW_some] <;> rfl) | (simp only [← dJ]; first | rfl | (simp [errW_none, errW_some] <;> rfl)) | (simp [*, errW_none, errW_some] <;> rfl), by first | exact Kd.R_nil _ _ _ _ _ | exact Kd.N_nil _ _ _ _ _ | exact Kd.V_nil _ _ _ _ _ | exact Kd.Q_nil _ _ _ _ _ | exact Kd.S_nil _ _ _ _ _, by first | exact Kd.R_nil _ _ _ _ _ | exact Kd.N_nil _ _ _ _ _ | exact Kd.V_nil _ _ _ _ _ | exact Kd.Q_nil _ _ _ _ _ | exact Kd.S_nil _ _ _ _ _, by first | exact Kd.R_nil _ _ _ _ _ | exact Kd.N_nil _ _ _ _ _ | exact Kd.V_nil _ _ _ _ _ | exact Kd.Q_nil _ _ _ _ _ | exact Kd.S_nil _ _ _ _ _, by first | exact Kd.R_nil _ _ _ _ _ | exact Kd.N_nil _ _ _ _ _ | exact Kd.V_nil _ _ _ _ _ | exact Kd.Q_nil _ _ _ _ _ | exact Kd.S_nil _ _ _ _ _, by repeat (first | (with_reducible first | exact HB.out | apply below_alloc | apply pw_below_drewN | apply below_drew1 | refine below_set ?_ dY.out | refine below_set ?_ dZ.out | refine below_set ?_ eA.out) | exact HB.out)⟩
   subst c17
   have H1 : ((some (([wrap64 ((wrap64 (aZ + 1)) * aW)] : List Int) : List Int)).bind fun y125 => (if bK.length + y125.length < 17592186044416 then ((some (([ji15] : List Int) : List Int)).bind fun y131 => (if aP.length + y131.length < 17592186044416 then (planner_plan.j1 sums last k1 t123 t123 t118 (t118.length : Int) aZ bI bJ aW aX aY (bK ++ y125) (aP ++ y131) bC aN 0) else (none))) else (none))) = some (r1, r2, r3, r4, r5, r6) := by rw [if_pos rfl] at H; exact H
   clear H
   have H := H1
   clear H1
   have eW := Aside0.mk H
   clear H
   have p122 : 0 ≤ (aZ : Int) := of_decide_eq_true (by first | (with_reducible assumption) | assumption)
   have q122 : aZ < (t118.length : Int) := of_decide_eq_true (by first | (with_reducible assumption) | assumption)
   obtain ⟨ad122, e122, gL⟩ := Kd.at_int (Kd.R_reads' aH.out).2.2 aZ p122 q122
   cases e122
   replace p122 := eq_true p122
   replace q122 := eq_true q122
   have jQ := eQ.out
   have jR := eR.out
   have jS := cE.out
   have jT := cU.out
   have jU : wr.cell? ⟨bB, 0, none⟩ = some (.slice bU bI.length bV) := (blk_cell aC.out 0).trans rfl
   have jV : wr.cell? ⟨bB, 1, none⟩ = some (.slice bW bJ.length bX) := (blk_cell aC.out 1).trans rfl
   have jW : wr.cell? ⟨bB, 2, none⟩ = some (.int .i64 aW) := (blk_cell aC.out 2).trans rfl
   have jX : wr.cell? ⟨bB, 3, none⟩ = some (.int .i64 aX) := (blk_cell aC.out 3).trans rfl
   have jY : wr.cell? ⟨bB, 4, none⟩ = some (.int .i64 aY) := (blk_cell aC.out 4).trans rfl
   have jZ := blk_frozen aC.out 0
   have kA := blk_frozen aC.out 1
   have kB := blk_frozen aC.out 2
   have kC := blk_frozen aC.out 3
   have kD := blk_frozen aC.out 4
   go_upto_region 12 with (first | ((with_reducible refine gate_dst (N := 34) rfl ?_); refine goesM2_ (some 34) rfl rfl Try.func37 (by kernel_rfl) rfl (.pointer (some ⟨a1, 0, none⟩)) (.int .i64 ji15) (.int .i64 (rd t118 aZ)) rfl rfl (by (try simp only [List.map_toArray, List.map_cons, List.map_nil]); first | done | (simp only [dJ]; rfl) | rfl | (simp only [List.length_drop, List.length_take]; rfl)) ?_; (with_reducible refine (end_calls a1 sums last ji15 (rd t118 aZ) t123 true _ (HCAR.out _ (qW HB.out)) HSM.out HUP.out A16.out).mono ?_); rintro e w22 ⟨rfl, hb⟩; refine ⟨_, rfl, ?_⟩; have n0_ := Aside0.mk (Kd.R_below (qR aH.out) hb); have n1_ := Aside0.mk (Kd.R_below (qR aI.out) hb); have n2_ := Aside0.mk (Kd.R_below (qR aE.out) hb); have n3_ := Aside0.mk (Kd.R_below (qR aJ.out) hb); have n4_ := Aside0.mk (Kd.R_below (qR aG.out) hb); have n5_ := Aside0.mk (blk_below (qB aC.out) hb); have n6_ := Aside0.mk (blk_below (qB aD.out) hb); have n7_ := Aside0.mk (blk_below (qB aA.out) hb); have n8_ := Aside0.mk (below_step (qW HB.out) hb); clear aH aI aE aJ aG aC aD aA HB; have aH := n0_; have aI := n1_; have aE := n2_; have aJ := n3_; have aG := n4_; have aC := n5_; have aD := n6_; have aA := n7_; have HB := n8_; clear n0_ n1_ n2_ n3_ n4_ n5_ n6_ n7_ n8_; (try clear hb); (try clear hb2); (try clear hk); (try clear hi)))
   (try simp only [Act.put, List.setIfInBounds_toArray, List.set_cons_zero, List.set_cons_succ])
   go_cut [] (fun wc => ∃ (kq : Nat) (cM : List Int) (cN : List Int) (aQ : Value) (aT : Value), Aside0 (planner_plan.j1 sums last kq t123 t123 t118 (t118.length : Int) aZ bI bJ aW aX aY cM cN bC aN 0 = some (r1, r2, r3, r4, r5, r6)) ∧ Aside0 (kq ≤ k1) ∧ Aside0 (Kd.R (Kd.int .i64) 3 wc w.heap.size (fun k_ => some k_ ≠ (aQ : Value).ownBlock ∧ some k_ ≠ (aT : Value).ownBlock ∧ some k_ ≠ (aU : Value).ownBlock ∧ some k_ ≠ (aV : Value).ownBlock) (.slice (some ad122) t118.length aK) t118) ∧ Aside0 (Kd.R (Kd.int .i64) 3 wc w.heap.size (fun k_ => some k_ ≠ ((.slice (some ad122) t118.length aK) : Value).ownBlock ∧ some k_ ≠ (aT : Value).ownBlock ∧ some k_ ≠ (aU : Value).ownBlock ∧ some k_ ≠ (aV : Value).ownBlock) aQ cM) ∧ Aside0 (Kd.R (Kd.int .i64) 3 wc w.heap.size (fun k_ => some k_ ≠ ((.slice (some ad122) t118.length aK) : Value).ownBlock ∧ some k_ ≠ (aQ : Value).ownBlock ∧ some k_ ≠ (aU : Value).ownBlock ∧ some k_ ≠ (aV : Value).ownBlock) aT cN) ∧ Aside0 (Kd.R (Kd.int .i64) 3 wc w.heap.size (fun k_ => some k_ ≠ ((.slice (some ad122) t118.length aK) : Value).ownBlock ∧ some k_ ≠ (aQ : Value).ownBlock ∧ some k_ ≠ (aT : Value).ownBlock ∧ some k_ ≠ (aV : Value).ownBlock) aU bC) ∧ Aside0 (Kd.R (Kd.int .i64) 3 wc w.heap.size (fun k_ => some k_ ≠ ((.slice (some ad122) t118.length aK) : Value).ownBlock ∧ some k_ ≠ (aQ : Value).ownBlock ∧ some k_ ≠ (aT : Value).ownBlock ∧ some k_ ≠ (aU : Value).ownBlock) aV aN) ∧ Aside0 (wc.heap[bB]? = some (.cells #[(.slice bU bI.length bV), (.slice bW bJ.length bX), .int .i64 aW, .int .i64 aX, .int .i64 aY] 24 (0, 0))) ∧ Aside0 (wc.heap[bA]? = some (.cells #[(.slice none 0 0), (.slice none 0 0), (.slice none 0 0), (.slice none 0 0), .int .i64 bT] 28 (0, 0))) ∧ Aside0 (wc.heap[aM]? = some (.cells #[aQ, aT, aU, aV, .int .i64 0] 28 (0, 0))) ∧ Aside0 (Below w.heap.size w wc))
   case first =>
    have H := eW.out
    clear eW
    obtain ⟨y125, eC⟩ : ∃ y_ : List Int, y_ = (([wrap64 ((wrap64 (aZ + 1)) * aW)] : List Int)) := ⟨_, rfl⟩
    replace H : (if bK.length + y125.length < 17592186044416 then ((some (([ji15] : List Int) : List Int)).bind fun y131 => (if aP.length + y131.length < 17592186044416 then (planner_plan.j1 sums last k1 t123 t123 t118 (t118.length : Int) aZ bI bJ aW aX aY (bK ++ y125) (aP ++ y131) bC aN 0) else (none))) else (none)) = some (r1, r2, r3, r4, r5, r6) := by first | (rw [eC]; with_reducible exact H) | (have H2_ := (Option.bind_some _ _).symm.trans H; rw [eC]; with_reducible exact H2_) | (have H2_ := (Option.bind_some _ _).symm.trans H; with_reducible exact H2_) | with_reducible exact H | (rw [eC]; exact H) | exact H
    have eS := Aside0.mk eC
    clear eC
    by_cases c23 : bK.length + y125.length < 17592186044416
    case neg =>
     rw [if_neg c23] at H
     exact absurd H (by simp)
    rw [if_pos c23] at H
    have eX := Aside0.mk c23
    clear c23
    obtain ⟨y128, eD⟩ : ∃ y_ : List Int, y_ = (bK ++ y125) := ⟨_, rfl⟩
    replace H : ((some (([ji15] : List Int) : List Int)).bind fun y131 => (if aP.length + y131.length < 17592186044416 then (planner_plan.j1 sums last k1 t123 t123 t118 (t118.length : Int) aZ bI bJ aW aX aY y128 (aP ++ y131) bC aN 0) else (none))) = some (r1, r2, r3, r4, r5, r6) := by first | (rw [eD]; with_reducible exact H) | (have H2_ := (Option.bind_some _ _).symm.trans H; rw [eD]; with_reducible exact H2_) | (have H2_ := (Option.bind_some _ _).symm.trans H; with_reducible exact H2_) | with_reducible exact H | (rw [eD]; exact H) | exact H
    have eY := Aside0.mk eD
    clear eD
    obtain ⟨y131, eE⟩ : ∃ y_ : List Int, y_ = (([ji15] : List Int)) := ⟨_, rfl⟩
    replace H : (if aP.length + y131.length < 17592186044416 then (planner_plan.j1 sums last k1 t123 t123 t118 (t118.length : Int) aZ bI bJ aW aX aY y128 (aP ++ y131) bC aN 0) else (none)) = some (r1, r2, r3, r4, r5, r6) := by first | (rw [eE]; with_reducible exact H) | (have H2_ := (Option.bind_some _ _).symm.trans H; rw [eE]; with_reducible exact H2_) | (have H2_ := (Option.bind_some _ _).symm.trans H; with_reducible exact H2_) | with_reducible exact H | (rw [eE]; exact H) | exact H
    have dK := Aside0.mk eE
    clear eE
    by_cases c24 : aP.length + y131.length < 17592186044416
    case neg =>
     rw [if_neg c24] at H
     exact absurd H (by simp)
    rw [if_pos c24] at H
    have gM := Aside0.mk c24
    clear c24
    obtain ⟨y134, eF⟩ : ∃ y_ : List Int, y_ = (aP ++ y131) := ⟨_, rfl⟩
    replace H : (planner_plan.j1 sums last k1 t123 t123 t118 (t118.length : Int) aZ bI bJ aW aX aY y128 y134 bC aN 0) = some (r1, r2, r3, r4, r5, r6) := by first | (rw [eF]; with_reducible exact H) | (have H2_ := (Option.bind_some _ _).symm.trans H; rw [eF]; with_reducible exact H2_) | (have H2_ := (Option.bind_some _ _).symm.trans H; with_reducible exact H2_) | with_reducible exact H | (rw [eF]; exact H) | exact H
    have gN := Aside0.mk eF
    clear eF
    have H' := Aside0.mk H
    clear H
    obtain ⟨cO, cP, gO⟩ := Kd.R_slice aI.out
    subst gO
    obtain ⟨bE, bF, gP⟩ := Kd.R_slice aE.out
    subst gP
    try go_wp2
    have n0_ := Aside0.mk (Kd.R_drew aH.out)
    have n1_ := Aside0.mk (Kd.R_drew aI.out)
    have n2_ := Aside0.mk (Kd.R_drew aE.out)
    have n3_ := Aside0.mk (Kd.R_drew aJ.out)
    have n4_ := Aside0.mk (Kd.R_drew aG.out)
    have n5_ := Aside0.mk (blk_drew aC.out)
    have n6_ := Aside0.mk (blk_drew aD.out)
    have n7_ := Aside0.mk (blk_drew aA.out)
    have n8_ := Aside0.mk (below_drew1 HB.out)
    clear aH aI aE aJ aG aC aD aA HB
    have aH := n0_
    have aI := n1_
    have aE := n2_
    have aJ := n3_
    have aG := n4_
    have aC := n5_
    have aD := n6_
    have aA := n7_
    have HB := n8_
    clear n0_ n1_ n2_ n3_ n4_ n5_ n6_ n7_ n8_
    refine start_ (n := 14) (S := fun w' => w'.cell? ⟨aM, 0, none⟩ = some (.slice cO bK.length cP) ∧ w'.cell? ⟨aM, 1, none⟩ = some (.slice bE aP.length bF) ∧ w'.cell? ⟨aM, 2, none⟩ = some (aU) ∧ w'.cell? ⟨aM, 3, none⟩ = some (aV) ∧ w'.cell? ⟨aM, 4, none⟩ = some (.int .i64 0)) (ds := [11, 13]) #[false, false, false, false, false, false, false, false, false, false, false, false, false, false] (by kernel_rfl) rfl rfl ⟨(blk_cell aA.out 0).trans rfl, (blk_cell aA.out 1).trans rfl, (blk_cell aA.out 2).trans rfl, (blk_cell aA.out 3).trans rfl, (blk_cell aA.out 4).trans rfl⟩ (fun hHeld => ?_); refine with_tabW planner_plan.tab12 planner_plan.bits12 (fun HT_ HW_ => ?_)
    generalize w22.drew = w27 at aH aI aE aJ aG aC aD aA HB hHeld ⊢
    refine pS (i := 0) (N := some 41) #[true, false, false, false, false, false, false, false, false, false, false, false, false, false] rfl rfl HT_.out ?_
    refine pS (i := 2) (N := some 43) #[true, false, true, false, false, false, false, false, false, false, false, false, false, false] rfl rfl HT_.out ?_
    refine pS (i := 5) (N := some 46) #[true, false, true, false, false, true, false, false, false, false, false, false, false, false] rfl rfl HT_.out ?_
    refine pS (i := 7) (N := some 48) #[true, false, true, false, false, true, false, true, false, false, false, false, false, false] rfl rfl HT_.out ?_
    refine take_ (i := 1) (N := some 42) (v := ?_) (a' := ?_) #[true, true, true, false, false, true, false, true, false, false, false, false, false, false] rfl rfl (take_ofW HT_.out HW_.out (by kernel_rfl)) (fun _ _ _ h => h) (Or.inl ⟨by rfl, ?_⟩) hHeld ?_ ?_; rotate_left
    ·rintro w' ⟨s0, s1, s2, s3, s4⟩
     go_simp
     with_reducible rfl
    rotate_left
    ·simp only [Act.put, List.setIfInBounds_toArray, List.set_cons_zero, List.set_cons_succ, i64_w, i32_w]
     rfl
    refine take_ (i := 6) (N := some 47) (v := ?_) (a' := ?_) #[true, true, true, false, false, true, true, true, false, false, false, false, false, false] rfl rfl (take_ofW HT_.out HW_.out (by kernel_rfl)) (fun _ _ _ h => h) (Or.inl ⟨by rfl, ?_⟩) hHeld ?_ ?_; rotate_left
    ·rintro w' ⟨s0, s1, s2, s3, s4⟩
     go_simp
     with_reducible rfl
    rotate_left
    ·simp only [Act.put, List.setIfInBounds_toArray, List.set_cons_zero, List.set_cons_succ, i64_w, i32_w]
     rfl
    refine join_ (σ := Value × Value × Value) 4 #[true, true, true, true, true, true, true, true, true, false, true, false, false, false] (fun s_ => [(44, s_.1), (45, s_.2.1), (49, s_.2.2), (51, .pointer (some ⟨aM, 0, none⟩))]) (fun s_ w' => (w'.cell? ⟨aM, 0, none⟩ = some (.slice cO bK.length cP) ∧ w'.cell? ⟨aM, 1, none⟩ = some (.slice bE aP.length bF) ∧ w'.cell? ⟨aM, 2, none⟩ = some (aU) ∧ w'.cell? ⟨aM, 3, none⟩ = some (aV) ∧ w'.cell? ⟨aM, 4, none⟩ = some (.int .i64 0)) ∧ (Kd.R (Kd.int .i64) 3 w' w.heap.size (fun k_ => some k_ ≠ (s_.2.1 : Value).ownBlock ∧ some k_ ≠ (s_.2.2 : Value).ownBlock ∧ some k_ ≠ (.slice bE aP.length bF : Value).ownBlock ∧ some k_ ≠ (aU : Value).ownBlock ∧ some k_ ≠ (aV : Value).ownBlock ∧ some k_ ≠ (.slice (some ad122) t118.length aK : Value).ownBlock) s_.1 y125) ∧ (Kd.R (Kd.int .i64) 3 w' w.heap.size (fun k_ => some k_ ≠ (s_.1 : Value).ownBlock ∧ some k_ ≠ (s_.2.2 : Value).ownBlock ∧ some k_ ≠ (.slice bE aP.length bF : Value).ownBlock ∧ some k_ ≠ (aU : Value).ownBlock ∧ some k_ ≠ (aV : Value).ownBlock ∧ some k_ ≠ (.slice (some ad122) t118.length aK : Value).ownBlock) s_.2.1 y128) ∧ (Kd.R (Kd.int .i64) 3 w' w.heap.size (fun k_ => some k_ ≠ (s_.1 : Value).ownBlock ∧ some k_ ≠ (s_.2.1 : Value).ownBlock ∧ some k_ ≠ (.slice bE aP.length bF : Value).ownBlock ∧ some k_ ≠ (aU : Value).ownBlock ∧ some k_ ≠ (aV : Value).ownBlock ∧ some k_ ≠ (.slice (some ad122) t118.length aK : Value).ownBlock) s_.2.2 y131) ∧ (Kd.R (Kd.int .i64) 3 w' w.heap.size (fun k_ => some k_ ≠ (s_.1 : Value).ownBlock ∧ some k_ ≠ (s_.2.1 : Value).ownBlock ∧ some k_ ≠ (s_.2.2 : Value).ownBlock ∧ some k_ ≠ (aU : Value).ownBlock ∧ some k_ ≠ (aV : Value).ownBlock ∧ some k_ ≠ (.slice (some ad122) t118.length aK : Value).ownBlock) (.slice bE aP.length bF) aP) ∧ (Kd.R (Kd.int .i64) 3 w' w.heap.size (fun k_ => some k_ ≠ (s_.1 : Value).ownBlock ∧ some k_ ≠ (s_.2.1 : Value).ownBlock ∧ some k_ ≠ (s_.2.2 : Value).ownBlock ∧ some k_ ≠ (.slice bE aP.length bF : Value).ownBlock ∧ some k_ ≠ (aV : Value).ownBlock ∧ some k_ ≠ (.slice (some ad122) t118.length aK : Value).ownBlock) aU bC) ∧ (Kd.R (Kd.int .i64) 3 w' w.heap.size (fun k_ => some k_ ≠ (s_.1 : Value).ownBlock ∧ some k_ ≠ (s_.2.1 : Value).ownBlock ∧ some k_ ≠ (s_.2.2 : Value).ownBlock ∧ some k_ ≠ (.slice bE aP.length bF : Value).ownBlock ∧ some k_ ≠ (aU : Value).ownBlock ∧ some k_ ≠ (.slice (some ad122) t118.length aK : Value).ownBlock) aV aN) ∧ (Kd.R (Kd.int .i64) 3 w' w.heap.size (fun k_ => some k_ ≠ (s_.1 : Value).ownBlock ∧ some k_ ≠ (s_.2.1 : Value).ownBlock ∧ some k_ ≠ (s_.2.2 : Value).ownBlock ∧ some k_ ≠ (.slice bE aP.length bF : Value).ownBlock ∧ some k_ ≠ (aU : Value).ownBlock ∧ some k_ ≠ (aV : Value).ownBlock) (.slice (some ad122) t118.length aK) t118) ∧ (w'.heap[bB]? = some (.cells #[.slice bU bI.length bV, .slice bW bJ.length bX, .int .i64 aW, .int .i64 aX, .int .i64 aY] 24 (0, 0))) ∧ (w'.heap[bA]? = some (.cells #[.slice none 0 0, .slice none 0 0, .slice none 0 0, .slice none 0 0, .int .i64 bT] 28 (0, 0))) ∧ (w'.heap[aM]? = some (.cells #[.slice cO bK.length cP, .slice bE aP.length bF, aU, aV, .int .i64 0] 28 (0, 0))) ∧ (Below w.heap.size w w')) ?_ ?_; rotate_left
    ·intro hCont
     refine two_ (i := 3) (j := 8) (Ni := some 44) (Nj := some 49) #[true, true, true, true, false, true, true, true, false, false, false, false, false, false] #[true, true, true, false, false, true, true, true, true, false, false, false, false, false] rfl rfl rfl rfl (two_of HT_.out (by kernel_rfl)) (by decide) (by decide) (fun K hK => ?_) (fun K hK => ?_)
     ·skip
      refine Kd.R_lit_step (Kd.int .i64) _ 3 ?hg (N := 44) ?hd (xs := ([wrap64 ((wrap64 (aZ + 1)) * aW)] : List Int)) (inner := [.int .i64 (wrap64 ((wrap64 (aZ + 1)) * aW))]) (ok := fun _ => True) (okp := fun _ => True) ?hr ?hp (fun _ hk => hk) trivial (Below.refl _ _) (Nat.le_refl _) (by simp) ?_; (case hd => rfl); (case hg => rfl); (case hr => first | (go_simp; done) | (go_simp; rfl)); (case hp => exact (Reps.one (show Kd.M (Kd.int .i64) _ _ _ (wrap64 ((wrap64 (aZ + 1)) * aW)) [.int .i64 (wrap64 ((wrap64 (aZ + 1)) * aW))] from rfl) (Reps.none _ _)))
      intro v126 w28 bR hb hg_ hnew_
      clear hg_ hnew_
      (first | rw [← eS.out] at bR | (simp only [Int.reduceToNat] at bR; rw [← eS.out] at bR))
      have n0_ := Aside0.mk (Kd.R_elder' (qR aH.out) (Kd.R_base bR) hb)
      have n1_ := Aside0.mk (Kd.R_elder' (qR aI.out) (Kd.R_base bR) hb)
      have n2_ := Aside0.mk (Kd.R_elder' (qR aE.out) (Kd.R_base bR) hb)
      have n3_ := Aside0.mk (Kd.R_elder' (qR aJ.out) (Kd.R_base bR) hb)
      have n4_ := Aside0.mk (Kd.R_elder' (qR aG.out) (Kd.R_base bR) hb)
      have n5_ := Aside0.mk (Kd.R_lower (Kd.R_new' (Kd.R_new' (Kd.R_new' (Kd.R_new' (Kd.R_new' bR (Kd.R_lt (qR aH.out))) (Kd.R_lt (qR aI.out))) (Kd.R_lt (qR aE.out))) (Kd.R_lt (qR aJ.out))) (Kd.R_lt (qR aG.out))) (below_size (qW HB.out)))
      have n6_ := Aside0.mk (blk_below (qB aC.out) hb)
      have n7_ := Aside0.mk (blk_below (qB aD.out) hb)
      have n8_ := Aside0.mk (blk_below (qB aA.out) hb)
      have n9_ := Aside0.mk (below_step (qW HB.out) hb)
      clear aH aI aE aJ aG aC aD aA HB
      have aH := n0_
      have aI := n1_
      have aE := n2_
      have aJ := n3_
      have aG := n4_
      have bL := n5_
      have aC := n6_
      have aD := n7_
      have aA := n8_
      have HB := n9_
      clear n0_ n1_ n2_ n3_ n4_ n5_ n6_ n7_ n8_ n9_ hb bR
      obtain ⟨dL, dM, fG⟩ := Kd.R_slice bL.out
      (first | subst fG | (injection fG with f1_ f2_ f3_; have f4_ := f1_.symm; have f5_ := f3_.symm; clear f1_ f2_ f3_; subst f4_; subst f5_))
      refine hK.out _ _ ⟨(blk_cell aA.out 0).trans rfl, (blk_cell aA.out 1).trans rfl, (blk_cell aA.out 2).trans rfl, (blk_cell aA.out 3).trans rfl, (blk_cell aA.out 4).trans rfl⟩ (fun hHeld => ?_); clear hK K
      refine norm_ (a' := ?_) ?_ ?_; rotate_left
      ·show Act.put _ (some 44) _ = _
       simp only [Act.put, List.setIfInBounds_toArray, List.set_cons_zero, List.set_cons_succ, i64_w, i32_w]
       rfl
      refine two_ (i := 4) (j := 8) (Ni := some 45) (Nj := some 49) #[true, true, true, true, true, true, true, true, false, false, false, false, false, false] #[true, true, true, true, false, true, true, true, true, false, false, false, false, false] rfl rfl rfl rfl (two_of HT_.out (by kernel_rfl)) (by decide) (by decide) (fun K hK => ?_) (fun K hK => ?_)
      ·skip
       refine Kd.R_append_rows_step (Kd.int .i64) (w0 := w) w.heap.size (by rfl) (.tmp 42) (.tmp 44) 22 3 (.int .i64 0) 8 rfl Try.underlying22 info3 rfl (by decide) (by omega) (.slice cO bK.length cP) bK y125 _ _ _ (fun k_ => some k_ ≠ (.slice (some ad122) t118.length aK : Value).ownBlock ∧ some k_ ≠ (.slice bE aP.length bF : Value).ownBlock ∧ some k_ ≠ (aU : Value).ownBlock ∧ some k_ ≠ (aV : Value).ownBlock ∧ some k_ ≠ (.slice dL y125.length dM : Value).ownBlock) (fun _ => False) rfl rfl ?aO ?aR (fun _ _ h => h) (fun _ h => h.elim) ?aF ?aB ?aS ?aL ?_
       (case aR => repeat (first | exact (Kd.R_reads' bL.out).2.2 | (with_reducible refine Kd.C_alloc ?_ _) | (with_reducible refine Kd.C_drewN ?_ _) | (with_reducible refine Kd.C_drew ?_)))
       (case aB => exact (qW HB.out))
       (case aF => exact (fun k_ hk => ⟨Kd.fresh' (Kd.R_lt (qR aH.out)) k_ hk, Kd.fresh' (Kd.R_lt (qR aE.out)) k_ hk, Kd.fresh' (Kd.R_lt (qR aJ.out)) k_ hk, Kd.fresh' (Kd.R_lt (qR aG.out)) k_ hk, Kd.fresh' (Kd.R_lt (qR bL.out)) k_ hk⟩))
       (case aO => exact (qR (Kd.R_mono aI.out (fun _ hk => ⟨hk.1.1, ⟨hk.1.2.1, ⟨hk.1.2.2.1, ⟨hk.1.2.2.2, hk.2⟩⟩⟩⟩))))
       (case aS => exact (below_size (qW HB.out)))
       (case aL => have := eX.out; omega)
       intro v129 w30 ho hb hg hat
       rw [← eY.out] at ho
       have n0_ := Aside0.mk (Kd.R_after (ok := (fun k_ => some k_ ≠ (.slice bE aP.length bF : Value).ownBlock ∧ some k_ ≠ (aU : Value).ownBlock ∧ some k_ ≠ (aV : Value).ownBlock ∧ some k_ ≠ (.slice dL y125.length dM : Value).ownBlock)) (qR (Kd.R_mono aH.out (fun _ hk => ⟨⟨hk.1.2.1, ⟨hk.1.2.2.1, ⟨hk.1.2.2.2, hk.2⟩⟩⟩, hk.1.1⟩))) hg hat)
       have n1_ := Aside0.mk (Kd.R_after (ok := (fun k_ => some k_ ≠ (.slice (some ad122) t118.length aK : Value).ownBlock ∧ some k_ ≠ (aU : Value).ownBlock ∧ some k_ ≠ (aV : Value).ownBlock ∧ some k_ ≠ (.slice dL y125.length dM : Value).ownBlock)) (qR (Kd.R_mono aE.out (fun _ hk => ⟨⟨hk.1.1, ⟨hk.1.2.2.1, ⟨hk.1.2.2.2, hk.2⟩⟩⟩, hk.1.2.1⟩))) hg hat)
       have n2_ := Aside0.mk (Kd.R_after (ok := (fun k_ => some k_ ≠ (.slice (some ad122) t118.length aK : Value).ownBlock ∧ some k_ ≠ (.slice bE aP.length bF : Value).ownBlock ∧ some k_ ≠ (aV : Value).ownBlock ∧ some k_ ≠ (.slice dL y125.length dM : Value).ownBlock)) (qR (Kd.R_mono aJ.out (fun _ hk => ⟨⟨hk.1.1, ⟨hk.1.2.2.1, ⟨hk.1.2.2.2, hk.2⟩⟩⟩, hk.1.2.1⟩))) hg hat)
       have n3_ := Aside0.mk (Kd.R_after (ok := (fun k_ => some k_ ≠ (.slice (some ad122) t118.length aK : Value).ownBlock ∧ some k_ ≠ (.slice bE aP.length bF : Value).ownBlock ∧ some k_ ≠ (aU : Value).ownBlock ∧ some k_ ≠ (.slice dL y125.length dM : Value).ownBlock)) (qR (Kd.R_mono aG.out (fun _ hk => ⟨⟨hk.1.1, ⟨hk.1.2.2.1, ⟨hk.1.2.2.2, hk.2⟩⟩⟩, hk.1.2.1⟩))) hg hat)
       have n4_ := Aside0.mk (blk_grown (qB aC.out) hg (Kd.R_ne aI.out aC.out (by decide)))
       have n5_ := Aside0.mk (blk_grown (qB aD.out) hg (Kd.R_ne aI.out aD.out (by decide)))
       have n6_ := Aside0.mk (blk_grown (qB aA.out) hg (Kd.R_ne aI.out aA.out (by decide)))
       have n7_ := Aside0.mk (Kd.R_after (ok := (fun k_ => some k_ ≠ (.slice (some ad122) t118.length aK : Value).ownBlock ∧ some k_ ≠ (.slice bE aP.length bF : Value).ownBlock ∧ some k_ ≠ (aU : Value).ownBlock ∧ some k_ ≠ (aV : Value).ownBlock)) (qR (Kd.R_mono bL.out (fun _ hk => ⟨⟨hk.1.1.1.1.2, ⟨hk.1.1.2, ⟨hk.1.2, hk.2⟩⟩⟩, hk.1.1.1.2⟩))) hg hat)
       have n8_ := Aside0.mk (hb)
       have n9_ := Aside0.mk (ho)
       clear aH aE aJ aG aC aD aA bL HB aI
       have aH := n0_
       have aE := n1_
       have aJ := n2_
       have aG := n3_
       have aC := n4_
       have aD := n5_
       have aA := n6_
       have bL := n7_
       have HB := n8_
       have bY := n9_
       clear n0_ n1_ n2_ n3_ n4_ n5_ n6_ n7_ n8_ n9_ ho hb hg hat
       refine hK.out _ _ ⟨(blk_cell aA.out 0).trans rfl, (blk_cell aA.out 1).trans rfl, (blk_cell aA.out 2).trans rfl, (blk_cell aA.out 3).trans rfl, (blk_cell aA.out 4).trans rfl⟩ (fun hHeld => ?_); clear hK K
       refine norm_ (a' := ?_) ?_ ?_; rotate_left
       ·show Act.put _ (some 45) _ = _
        simp only [Act.put, List.setIfInBounds_toArray, List.set_cons_zero, List.set_cons_succ, i64_w, i32_w]
        rfl
       refine pS (i := 10) (N := some 51) #[true, true, true, true, true, true, true, true, false, false, true, false, false, false] rfl rfl HT_.out ?_
       refine one_ (i := 8) (N := some 49) #[true, true, true, true, true, true, true, true, true, false, true, false, false, false] rfl rfl (one_of HT_.out (by kernel_rfl)) (by decide) (fun K hK => ?_)
       refine Kd.R_lit_step (Kd.int .i64) _ 3 ?hg (N := 49) ?hd (xs := ([ji15] : List Int)) (inner := [.int .i64 ji15]) (ok := fun _ => True) (okp := fun _ => True) ?hr ?hp (fun _ hk => hk) trivial (Below.refl _ _) (Nat.le_refl _) (by simp) ?_; (case hd => rfl); (case hg => rfl); (case hr => first | (go_simp; done) | (go_simp; rfl)); (case hp => exact (Reps.one (show Kd.M (Kd.int .i64) _ _ _ ji15 [.int .i64 ji15] from rfl) (Reps.none _ _)))
       intro v132 w32 cI hb hg_ hnew_
       clear hg_ hnew_
       (first | rw [← dK.out] at cI | (simp only [Int.reduceToNat] at cI; rw [← dK.out] at cI))
       have n0_ := Aside0.mk (Kd.R_elder' (qR aH.out) (Kd.R_base cI) hb)
       have n1_ := Aside0.mk (Kd.R_elder' (qR aE.out) (Kd.R_base cI) hb)
       have n2_ := Aside0.mk (Kd.R_elder' (qR aJ.out) (Kd.R_base cI) hb)
       have n3_ := Aside0.mk (Kd.R_elder' (qR aG.out) (Kd.R_base cI) hb)
       have n4_ := Aside0.mk (Kd.R_elder' (qR bL.out) (Kd.R_base cI) hb)
       have n5_ := Aside0.mk (Kd.R_elder' (qR bY.out) (Kd.R_base cI) hb)
       have n6_ := Aside0.mk (Kd.R_lower (Kd.R_new' (Kd.R_new' (Kd.R_new' (Kd.R_new' (Kd.R_new' (Kd.R_new' cI (Kd.R_lt (qR aH.out))) (Kd.R_lt (qR aE.out))) (Kd.R_lt (qR aJ.out))) (Kd.R_lt (qR aG.out))) (Kd.R_lt (qR bL.out))) (Kd.R_lt (qR bY.out))) (below_size (qW HB.out)))
       have n7_ := Aside0.mk (blk_below (qB aC.out) hb)
       have n8_ := Aside0.mk (blk_below (qB aD.out) hb)
       have n9_ := Aside0.mk (blk_below (qB aA.out) hb)
       have bD := Aside0.mk (below_step (qW HB.out) hb)
       clear aH aE aJ aG bL bY aC aD aA HB
       have aH := n0_
       have aE := n1_
       have aJ := n2_
       have aG := n3_
       have bL := n4_
       have bY := n5_
       have bN := n6_
       have aC := n7_
       have aD := n8_
       have aA := n9_
       have HB := bD
       clear n0_ n1_ n2_ n3_ n4_ n5_ n6_ n7_ n8_ n9_ bD hb cI
       refine hK.out _ _ ⟨(blk_cell aA.out 0).trans rfl, (blk_cell aA.out 1).trans rfl, (blk_cell aA.out 2).trans rfl, (blk_cell aA.out 3).trans rfl, (blk_cell aA.out 4).trans rfl⟩ (fun hHeld => ?_); clear hK K
       refine norm_ (a' := ?_) ?_ ?_; rotate_left
       ·show Act.put _ (some 49) _ = _
        simp only [Act.put, List.setIfInBounds_toArray, List.set_cons_zero, List.set_cons_succ, i64_w, i32_w]
        rfl
       exact norm_ (by simp only [putAll, Act.put, List.setIfInBounds_toArray, List.set_cons_zero, List.set_cons_succ]) (hCont (.slice dL y125.length dM, v129, v132) _ ⟨hHeld, (qR (Kd.R_mono bL.out (fun _ hk => ⟨hk.1.2, ⟨hk.2, ⟨hk.1.1.2.1, ⟨hk.1.1.2.2.1, ⟨hk.1.1.2.2.2, hk.1.1.1⟩⟩⟩⟩⟩))), (qR (Kd.R_mono bY.out (fun _ hk => ⟨hk.1.2.2.2.2, ⟨hk.2, ⟨hk.1.2.1, ⟨hk.1.2.2.1, ⟨hk.1.2.2.2.1, hk.1.1⟩⟩⟩⟩⟩))), (qR (Kd.R_mono bN.out (fun _ hk => ⟨hk.1.2, ⟨hk.2, ⟨hk.1.1.1.1.2, ⟨hk.1.1.1.2, ⟨hk.1.1.2, hk.1.1.1.1.1.2⟩⟩⟩⟩⟩))), (qR (Kd.R_mono aE.out (fun _ hk => ⟨hk.1.1.2.2.2, ⟨hk.1.2, ⟨hk.2, ⟨hk.1.1.2.1, ⟨hk.1.1.2.2.1, hk.1.1.1⟩⟩⟩⟩⟩))), (qR (Kd.R_mono aJ.out (fun _ hk => ⟨hk.1.1.2.2.2, ⟨hk.1.2, ⟨hk.2, ⟨hk.1.1.2.1, ⟨hk.1.1.2.2.1, hk.1.1.1⟩⟩⟩⟩⟩))), (qR (Kd.R_mono aG.out (fun _ hk => ⟨hk.1.1.2.2.2, ⟨hk.1.2, ⟨hk.2, ⟨hk.1.1.2.1, ⟨hk.1.1.2.2.1, hk.1.1.1⟩⟩⟩⟩⟩))), (qR (Kd.R_mono aH.out (fun _ hk => ⟨hk.1.1.2.2.2, ⟨hk.1.2, ⟨hk.2, ⟨hk.1.1.1, ⟨hk.1.1.2.1, hk.1.1.2.2.1⟩⟩⟩⟩⟩))), (qB aC.out), (qB aD.out), (qB aA.out), (qW HB.out)⟩)
      ·skip
       refine Kd.R_lit_step (Kd.int .i64) _ 3 ?hg (N := 49) ?hd (xs := ([ji15] : List Int)) (inner := [.int .i64 ji15]) (ok := fun _ => True) (okp := fun _ => True) ?hr ?hp (fun _ hk => hk) trivial (Below.refl _ _) (Nat.le_refl _) (by simp) ?_; (case hd => rfl); (case hg => rfl); (case hr => first | (go_simp; done) | (go_simp; rfl)); (case hp => exact (Reps.one (show Kd.M (Kd.int .i64) _ _ _ ji15 [.int .i64 ji15] from rfl) (Reps.none _ _)))
       intro v132 w30 bP hb hg_ hnew_
       clear hg_ hnew_
       (first | rw [← dK.out] at bP | (simp only [Int.reduceToNat] at bP; rw [← dK.out] at bP))
       have n0_ := Aside0.mk (Kd.R_elder' (qR aH.out) (Kd.R_base bP) hb)
       have n1_ := Aside0.mk (Kd.R_elder' (qR aI.out) (Kd.R_base bP) hb)
       have n2_ := Aside0.mk (Kd.R_elder' (qR aE.out) (Kd.R_base bP) hb)
       have n3_ := Aside0.mk (Kd.R_elder' (qR aJ.out) (Kd.R_base bP) hb)
       have n4_ := Aside0.mk (Kd.R_elder' (qR aG.out) (Kd.R_base bP) hb)
       have n5_ := Aside0.mk (Kd.R_elder' (qR bL.out) (Kd.R_base bP) hb)
       have n6_ := Aside0.mk (Kd.R_lower (Kd.R_new' (Kd.R_new' (Kd.R_new' (Kd.R_new' (Kd.R_new' (Kd.R_new' bP (Kd.R_lt (qR aH.out))) (Kd.R_lt (qR aI.out))) (Kd.R_lt (qR aE.out))) (Kd.R_lt (qR aJ.out))) (Kd.R_lt (qR aG.out))) (Kd.R_lt (qR bL.out))) (below_size (qW HB.out)))
       have n7_ := Aside0.mk (blk_below (qB aC.out) hb)
       have n8_ := Aside0.mk (blk_below (qB aD.out) hb)
       have n9_ := Aside0.mk (blk_below (qB aA.out) hb)
       have bD := Aside0.mk (below_step (qW HB.out) hb)
       clear aH aI aE aJ aG bL aC aD aA HB
       have aH := n0_
       have aI := n1_
       have aE := n2_
       have aJ := n3_
       have aG := n4_
       have bL := n5_
       have bN := n6_
       have aC := n7_
       have aD := n8_
       have aA := n9_
       have HB := bD
       clear n0_ n1_ n2_ n3_ n4_ n5_ n6_ n7_ n8_ n9_ bD hb bP
       obtain ⟨cA, cB, eG⟩ := Kd.R_slice bL.out
       (first | subst eG | (injection eG with f1_ f2_ f3_; have f4_ := f1_.symm; have f5_ := f3_.symm; clear f1_ f2_ f3_; subst f4_; subst f5_))
       refine hK.out _ _ ⟨(blk_cell aA.out 0).trans rfl, (blk_cell aA.out 1).trans rfl, (blk_cell aA.out 2).trans rfl, (blk_cell aA.out 3).trans rfl, (blk_cell aA.out 4).trans rfl⟩ (fun hHeld => ?_); clear hK K
       refine norm_ (a' := ?_) ?_ ?_; rotate_left
       ·show Act.put _ (some 49) _ = _
        simp only [Act.put, List.setIfInBounds_toArray, List.set_cons_zero, List.set_cons_succ, i64_w, i32_w]
        rfl
       refine one_ (i := 4) (N := some 45) #[true, true, true, true, true, true, true, true, true, false, false, false, false, false] rfl rfl (one_of HT_.out (by kernel_rfl)) (by decide) (fun K hK => ?_)
       refine Kd.R_append_rows_step (Kd.int .i64) (w0 := w) w.heap.size (by rfl) (.tmp 42) (.tmp 44) 22 3 (.int .i64 0) 8 rfl Try.underlying22 info3 rfl (by decide) (by omega) (.slice cO bK.length cP) bK y125 _ _ _ (fun k_ => some k_ ≠ (.slice (some ad122) t118.length aK : Value).ownBlock ∧ some k_ ≠ (.slice bE aP.length bF : Value).ownBlock ∧ some k_ ≠ (aU : Value).ownBlock ∧ some k_ ≠ (aV : Value).ownBlock ∧ some k_ ≠ (.slice cA y125.length cB : Value).ownBlock ∧ some k_ ≠ (v132 : Value).ownBlock) (fun _ => False) rfl rfl ?aO ?aR (fun _ _ h => h) (fun _ h => h.elim) ?aF ?aB ?aS ?aL ?_
       (case aR => repeat (first | exact (Kd.R_reads' bL.out).2.2 | (with_reducible refine Kd.C_alloc ?_ _) | (with_reducible refine Kd.C_drewN ?_ _) | (with_reducible refine Kd.C_drew ?_)))
       (case aB => exact (qW HB.out))
       (case aF => exact (fun k_ hk => ⟨Kd.fresh' (Kd.R_lt (qR aH.out)) k_ hk, Kd.fresh' (Kd.R_lt (qR aE.out)) k_ hk, Kd.fresh' (Kd.R_lt (qR aJ.out)) k_ hk, Kd.fresh' (Kd.R_lt (qR aG.out)) k_ hk, Kd.fresh' (Kd.R_lt (qR bL.out)) k_ hk, Kd.fresh' (Kd.R_lt (qR bN.out)) k_ hk⟩))
       (case aO => exact (qR (Kd.R_mono aI.out (fun _ hk => ⟨hk.1.1.1, ⟨hk.1.1.2.1, ⟨hk.1.1.2.2.1, ⟨hk.1.1.2.2.2, ⟨hk.1.2, hk.2⟩⟩⟩⟩⟩))))
       (case aS => exact (below_size (qW HB.out)))
       (case aL => have := eX.out; omega)
       intro v129 w32 ho hb hg hat
       rw [← eY.out] at ho
       have n0_ := Aside0.mk (Kd.R_after (ok := (fun k_ => some k_ ≠ (.slice bE aP.length bF : Value).ownBlock ∧ some k_ ≠ (aU : Value).ownBlock ∧ some k_ ≠ (aV : Value).ownBlock ∧ some k_ ≠ (.slice cA y125.length cB : Value).ownBlock ∧ some k_ ≠ (v132 : Value).ownBlock)) (qR (Kd.R_mono aH.out (fun _ hk => ⟨⟨hk.1.1.2.1, ⟨hk.1.1.2.2.1, ⟨hk.1.1.2.2.2, ⟨hk.1.2, hk.2⟩⟩⟩⟩, hk.1.1.1⟩))) hg hat)
       have n1_ := Aside0.mk (Kd.R_after (ok := (fun k_ => some k_ ≠ (.slice (some ad122) t118.length aK : Value).ownBlock ∧ some k_ ≠ (aU : Value).ownBlock ∧ some k_ ≠ (aV : Value).ownBlock ∧ some k_ ≠ (.slice cA y125.length cB : Value).ownBlock ∧ some k_ ≠ (v132 : Value).ownBlock)) (qR (Kd.R_mono aE.out (fun _ hk => ⟨⟨hk.1.1.1, ⟨hk.1.1.2.2.1, ⟨hk.1.1.2.2.2, ⟨hk.1.2, hk.2⟩⟩⟩⟩, hk.1.1.2.1⟩))) hg hat)
       have n2_ := Aside0.mk (Kd.R_after (ok := (fun k_ => some k_ ≠ (.slice (some ad122) t118.length aK : Value).ownBlock ∧ some k_ ≠ (.slice bE aP.length bF : Value).ownBlock ∧ some k_ ≠ (aV : Value).ownBlock ∧ some k_ ≠ (.slice cA y125.length cB : Value).ownBlock ∧ some k_ ≠ (v132 : Value).ownBlock)) (qR (Kd.R_mono aJ.out (fun _ hk => ⟨⟨hk.1.1.1, ⟨hk.1.1.2.2.1, ⟨hk.1.1.2.2.2, ⟨hk.1.2, hk.2⟩⟩⟩⟩, hk.1.1.2.1⟩))) hg hat)
       have n3_ := Aside0.mk (Kd.R_after (ok := (fun k_ => some k_ ≠ (.slice (some ad122) t118.length aK : Value).ownBlock ∧ some k_ ≠ (.slice bE aP.length bF : Value).ownBlock ∧ some k_ ≠ (aU : Value).ownBlock ∧ some k_ ≠ (.slice cA y125.length cB : Value).ownBlock ∧ some k_ ≠ (v132 : Value).ownBlock)) (qR (Kd.R_mono aG.out (fun _ hk => ⟨⟨hk.1.1.1, ⟨hk.1.1.2.2.1, ⟨hk.1.1.2.2.2, ⟨hk.1.2, hk.2⟩⟩⟩⟩, hk.1.1.2.1⟩))) hg hat)
       have n4_ := Aside0.mk (blk_grown (qB aC.out) hg (Kd.R_ne aI.out aC.out (by decide)))
       have n5_ := Aside0.mk (blk_grown (qB aD.out) hg (Kd.R_ne aI.out aD.out (by decide)))
       have n6_ := Aside0.mk (blk_grown (qB aA.out) hg (Kd.R_ne aI.out aA.out (by decide)))
       have n7_ := Aside0.mk (Kd.R_after (ok := (fun k_ => some k_ ≠ (.slice (some ad122) t118.length aK : Value).ownBlock ∧ some k_ ≠ (.slice bE aP.length bF : Value).ownBlock ∧ some k_ ≠ (aU : Value).ownBlock ∧ some k_ ≠ (aV : Value).ownBlock ∧ some k_ ≠ (v132 : Value).ownBlock)) (qR (Kd.R_mono bL.out (fun _ hk => ⟨⟨hk.1.1.1.1.1.2, ⟨hk.1.1.1.2, ⟨hk.1.1.2, ⟨hk.1.2, hk.2⟩⟩⟩⟩, hk.1.1.1.1.2⟩))) hg hat)
       have n8_ := Aside0.mk (Kd.R_after (ok := (fun k_ => some k_ ≠ (.slice (some ad122) t118.length aK : Value).ownBlock ∧ some k_ ≠ (.slice bE aP.length bF : Value).ownBlock ∧ some k_ ≠ (aU : Value).ownBlock ∧ some k_ ≠ (aV : Value).ownBlock ∧ some k_ ≠ (.slice cA y125.length cB : Value).ownBlock)) (qR (Kd.R_mono bN.out (fun _ hk => ⟨⟨hk.1.1.1.1.1.2, ⟨hk.1.1.1.2, ⟨hk.1.1.2, ⟨hk.1.2, hk.2⟩⟩⟩⟩, hk.1.1.1.1.2⟩))) hg hat)
       have n9_ := Aside0.mk (hb)
       have bD := Aside0.mk (ho)
       clear aH aE aJ aG aC aD aA bL bN HB aI
       have aH := n0_
       have aE := n1_
       have aJ := n2_
       have aG := n3_
       have aC := n4_
       have aD := n5_
       have aA := n6_
       have bL := n7_
       have bN := n8_
       have HB := n9_
       have bY := bD
       clear n0_ n1_ n2_ n3_ n4_ n5_ n6_ n7_ n8_ n9_ bD ho hb hg hat
       refine hK.out _ _ ⟨(blk_cell aA.out 0).trans rfl, (blk_cell aA.out 1).trans rfl, (blk_cell aA.out 2).trans rfl, (blk_cell aA.out 3).trans rfl, (blk_cell aA.out 4).trans rfl⟩ (fun hHeld => ?_); clear hK K
       refine norm_ (a' := ?_) ?_ ?_; rotate_left
       ·show Act.put _ (some 45) _ = _
        simp only [Act.put, List.setIfInBounds_toArray, List.set_cons_zero, List.set_cons_succ, i64_w, i32_w]
        rfl
       refine pS (i := 10) (N := some 51) #[true, true, true, true, true, true, true, true, true, false, true, false, false, false] rfl rfl HT_.out ?_
       exact norm_ (by simp only [putAll, Act.put, List.setIfInBounds_toArray, List.set_cons_zero, List.set_cons_succ]) (hCont (.slice cA y125.length cB, v129, v132) _ ⟨hHeld, (qR (Kd.R_mono bL.out (fun _ hk => ⟨hk.2, ⟨hk.1.2.2.2.2, ⟨hk.1.2.1, ⟨hk.1.2.2.1, ⟨hk.1.2.2.2.1, hk.1.1⟩⟩⟩⟩⟩))), (qR (Kd.R_mono bY.out (fun _ hk => ⟨hk.2.2.2.2.1, ⟨hk.2.2.2.2.2, ⟨hk.2.1, ⟨hk.2.2.1, ⟨hk.2.2.2.1, hk.1⟩⟩⟩⟩⟩))), (qR (Kd.R_mono bN.out (fun _ hk => ⟨hk.1.2.2.2.2, ⟨hk.2, ⟨hk.1.2.1, ⟨hk.1.2.2.1, ⟨hk.1.2.2.2.1, hk.1.1⟩⟩⟩⟩⟩))), (qR (Kd.R_mono aE.out (fun _ hk => ⟨hk.1.2.2.2.1, ⟨hk.2, ⟨hk.1.2.2.2.2, ⟨hk.1.2.1, ⟨hk.1.2.2.1, hk.1.1⟩⟩⟩⟩⟩))), (qR (Kd.R_mono aJ.out (fun _ hk => ⟨hk.1.2.2.2.1, ⟨hk.2, ⟨hk.1.2.2.2.2, ⟨hk.1.2.1, ⟨hk.1.2.2.1, hk.1.1⟩⟩⟩⟩⟩))), (qR (Kd.R_mono aG.out (fun _ hk => ⟨hk.1.2.2.2.1, ⟨hk.2, ⟨hk.1.2.2.2.2, ⟨hk.1.2.1, ⟨hk.1.2.2.1, hk.1.1⟩⟩⟩⟩⟩))), (qR (Kd.R_mono aH.out (fun _ hk => ⟨hk.1.2.2.2.1, ⟨hk.2, ⟨hk.1.2.2.2.2, ⟨hk.1.1, ⟨hk.1.2.1, hk.1.2.2.1⟩⟩⟩⟩⟩))), (qB aC.out), (qB aD.out), (qB aA.out), (qW HB.out)⟩)
     ·skip
      refine Kd.R_lit_step (Kd.int .i64) _ 3 ?hg (N := 49) ?hd (xs := ([ji15] : List Int)) (inner := [.int .i64 ji15]) (ok := fun _ => True) (okp := fun _ => True) ?hr ?hp (fun _ hk => hk) trivial (Below.refl _ _) (Nat.le_refl _) (by simp) ?_; (case hd => rfl); (case hg => rfl); (case hr => first | (go_simp; done) | (go_simp; rfl)); (case hp => exact (Reps.one (show Kd.M (Kd.int .i64) _ _ _ ji15 [.int .i64 ji15] from rfl) (Reps.none _ _)))
      intro v132 w28 bR hb hg_ hnew_
      clear hg_ hnew_
      (first | rw [← dK.out] at bR | (simp only [Int.reduceToNat] at bR; rw [← dK.out] at bR))
      have n0_ := Aside0.mk (Kd.R_elder' (qR aH.out) (Kd.R_base bR) hb)
      have n1_ := Aside0.mk (Kd.R_elder' (qR aI.out) (Kd.R_base bR) hb)
      have n2_ := Aside0.mk (Kd.R_elder' (qR aE.out) (Kd.R_base bR) hb)
      have n3_ := Aside0.mk (Kd.R_elder' (qR aJ.out) (Kd.R_base bR) hb)
      have n4_ := Aside0.mk (Kd.R_elder' (qR aG.out) (Kd.R_base bR) hb)
      have n5_ := Aside0.mk (Kd.R_lower (Kd.R_new' (Kd.R_new' (Kd.R_new' (Kd.R_new' (Kd.R_new' bR (Kd.R_lt (qR aH.out))) (Kd.R_lt (qR aI.out))) (Kd.R_lt (qR aE.out))) (Kd.R_lt (qR aJ.out))) (Kd.R_lt (qR aG.out))) (below_size (qW HB.out)))
      have n6_ := Aside0.mk (blk_below (qB aC.out) hb)
      have n7_ := Aside0.mk (blk_below (qB aD.out) hb)
      have n8_ := Aside0.mk (blk_below (qB aA.out) hb)
      have n9_ := Aside0.mk (below_step (qW HB.out) hb)
      clear aH aI aE aJ aG aC aD aA HB
      have aH := n0_
      have aI := n1_
      have aE := n2_
      have aJ := n3_
      have aG := n4_
      have bN := n5_
      have aC := n6_
      have aD := n7_
      have aA := n8_
      have HB := n9_
      clear n0_ n1_ n2_ n3_ n4_ n5_ n6_ n7_ n8_ n9_ hb bR
      refine hK.out _ _ ⟨(blk_cell aA.out 0).trans rfl, (blk_cell aA.out 1).trans rfl, (blk_cell aA.out 2).trans rfl, (blk_cell aA.out 3).trans rfl, (blk_cell aA.out 4).trans rfl⟩ (fun hHeld => ?_); clear hK K
      refine norm_ (a' := ?_) ?_ ?_; rotate_left
      ·show Act.put _ (some 49) _ = _
       simp only [Act.put, List.setIfInBounds_toArray, List.set_cons_zero, List.set_cons_succ, i64_w, i32_w]
       rfl
      refine one_ (i := 3) (N := some 44) #[true, true, true, true, false, true, true, true, true, false, false, false, false, false] rfl rfl (one_of HT_.out (by kernel_rfl)) (by decide) (fun K hK => ?_)
      refine Kd.R_lit_step (Kd.int .i64) _ 3 ?hg (N := 44) ?hd (xs := ([wrap64 ((wrap64 (aZ + 1)) * aW)] : List Int)) (inner := [.int .i64 (wrap64 ((wrap64 (aZ + 1)) * aW))]) (ok := fun _ => True) (okp := fun _ => True) ?hr ?hp (fun _ hk => hk) trivial (Below.refl _ _) (Nat.le_refl _) (by simp) ?_; (case hd => rfl); (case hg => rfl); (case hr => first | (go_simp; done) | (go_simp; rfl)); (case hp => exact (Reps.one (show Kd.M (Kd.int .i64) _ _ _ (wrap64 ((wrap64 (aZ + 1)) * aW)) [.int .i64 (wrap64 ((wrap64 (aZ + 1)) * aW))] from rfl) (Reps.none _ _)))
      intro v126 w30 bP hb hg_ hnew_
      clear hg_ hnew_
      (first | rw [← eS.out] at bP | (simp only [Int.reduceToNat] at bP; rw [← eS.out] at bP))
      have n0_ := Aside0.mk (Kd.R_elder' (qR aH.out) (Kd.R_base bP) hb)
      have n1_ := Aside0.mk (Kd.R_elder' (qR aI.out) (Kd.R_base bP) hb)
      have n2_ := Aside0.mk (Kd.R_elder' (qR aE.out) (Kd.R_base bP) hb)
      have n3_ := Aside0.mk (Kd.R_elder' (qR aJ.out) (Kd.R_base bP) hb)
      have n4_ := Aside0.mk (Kd.R_elder' (qR aG.out) (Kd.R_base bP) hb)
      have n5_ := Aside0.mk (Kd.R_elder' (qR bN.out) (Kd.R_base bP) hb)
      have n6_ := Aside0.mk (Kd.R_lower (Kd.R_new' (Kd.R_new' (Kd.R_new' (Kd.R_new' (Kd.R_new' (Kd.R_new' bP (Kd.R_lt (qR aH.out))) (Kd.R_lt (qR aI.out))) (Kd.R_lt (qR aE.out))) (Kd.R_lt (qR aJ.out))) (Kd.R_lt (qR aG.out))) (Kd.R_lt (qR bN.out))) (below_size (qW HB.out)))
      have n7_ := Aside0.mk (blk_below (qB aC.out) hb)
      have n8_ := Aside0.mk (blk_below (qB aD.out) hb)
      have n9_ := Aside0.mk (blk_below (qB aA.out) hb)
      have bD := Aside0.mk (below_step (qW HB.out) hb)
      clear aH aI aE aJ aG bN aC aD aA HB
      have aH := n0_
      have aI := n1_
      have aE := n2_
      have aJ := n3_
      have aG := n4_
      have bN := n5_
      have bL := n6_
      have aC := n7_
      have aD := n8_
      have aA := n9_
      have HB := bD
      clear n0_ n1_ n2_ n3_ n4_ n5_ n6_ n7_ n8_ n9_ bD hb bP
      obtain ⟨cA, cB, eG⟩ := Kd.R_slice bL.out
      (first | subst eG | (injection eG with f1_ f2_ f3_; have f4_ := f1_.symm; have f5_ := f3_.symm; clear f1_ f2_ f3_; subst f4_; subst f5_))
      refine hK.out _ _ ⟨(blk_cell aA.out 0).trans rfl, (blk_cell aA.out 1).trans rfl, (blk_cell aA.out 2).trans rfl, (blk_cell aA.out 3).trans rfl, (blk_cell aA.out 4).trans rfl⟩ (fun hHeld => ?_); clear hK K
      refine norm_ (a' := ?_) ?_ ?_; rotate_left
      ·show Act.put _ (some 44) _ = _
       simp only [Act.put, List.setIfInBounds_toArray, List.set_cons_zero, List.set_cons_succ, i64_w, i32_w]
       rfl
      refine one_ (i := 4) (N := some 45) #[true, true, true, true, true, true, true, true, true, false, false, false, false, false] rfl rfl (one_of HT_.out (by kernel_rfl)) (by decide) (fun K hK => ?_)
      refine Kd.R_append_rows_step (Kd.int .i64) (w0 := w) w.heap.size (by rfl) (.tmp 42) (.tmp 44) 22 3 (.int .i64 0) 8 rfl Try.underlying22 info3 rfl (by decide) (by omega) (.slice cO bK.length cP) bK y125 _ _ _ (fun k_ => some k_ ≠ (.slice (some ad122) t118.length aK : Value).ownBlock ∧ some k_ ≠ (.slice bE aP.length bF : Value).ownBlock ∧ some k_ ≠ (aU : Value).ownBlock ∧ some k_ ≠ (aV : Value).ownBlock ∧ some k_ ≠ (v132 : Value).ownBlock ∧ some k_ ≠ (.slice cA y125.length cB : Value).ownBlock) (fun _ => False) rfl rfl ?aO ?aR (fun _ _ h => h) (fun _ h => h.elim) ?aF ?aB ?aS ?aL ?_
      (case aR => repeat (first | exact (Kd.R_reads' bL.out).2.2 | (with_reducible refine Kd.C_alloc ?_ _) | (with_reducible refine Kd.C_drewN ?_ _) | (with_reducible refine Kd.C_drew ?_)))
      (case aB => exact (qW HB.out))
      (case aF => exact (fun k_ hk => ⟨Kd.fresh' (Kd.R_lt (qR aH.out)) k_ hk, Kd.fresh' (Kd.R_lt (qR aE.out)) k_ hk, Kd.fresh' (Kd.R_lt (qR aJ.out)) k_ hk, Kd.fresh' (Kd.R_lt (qR aG.out)) k_ hk, Kd.fresh' (Kd.R_lt (qR bN.out)) k_ hk, Kd.fresh' (Kd.R_lt (qR bL.out)) k_ hk⟩))
      (case aO => exact (qR (Kd.R_mono aI.out (fun _ hk => ⟨hk.1.1.1, ⟨hk.1.1.2.1, ⟨hk.1.1.2.2.1, ⟨hk.1.1.2.2.2, ⟨hk.1.2, hk.2⟩⟩⟩⟩⟩))))
      (case aS => exact (below_size (qW HB.out)))
      (case aL => have := eX.out; omega)
      intro v129 w32 ho hb hg hat
      rw [← eY.out] at ho
      have n0_ := Aside0.mk (Kd.R_after (ok := (fun k_ => some k_ ≠ (.slice bE aP.length bF : Value).ownBlock ∧ some k_ ≠ (aU : Value).ownBlock ∧ some k_ ≠ (aV : Value).ownBlock ∧ some k_ ≠ (v132 : Value).ownBlock ∧ some k_ ≠ (.slice cA y125.length cB : Value).ownBlock)) (qR (Kd.R_mono aH.out (fun _ hk => ⟨⟨hk.1.1.2.1, ⟨hk.1.1.2.2.1, ⟨hk.1.1.2.2.2, ⟨hk.1.2, hk.2⟩⟩⟩⟩, hk.1.1.1⟩))) hg hat)
      have n1_ := Aside0.mk (Kd.R_after (ok := (fun k_ => some k_ ≠ (.slice (some ad122) t118.length aK : Value).ownBlock ∧ some k_ ≠ (aU : Value).ownBlock ∧ some k_ ≠ (aV : Value).ownBlock ∧ some k_ ≠ (v132 : Value).ownBlock ∧ some k_ ≠ (.slice cA y125.length cB : Value).ownBlock)) (qR (Kd.R_mono aE.out (fun _ hk => ⟨⟨hk.1.1.1, ⟨hk.1.1.2.2.1, ⟨hk.1.1.2.2.2, ⟨hk.1.2, hk.2⟩⟩⟩⟩, hk.1.1.2.1⟩))) hg hat)
      have n2_ := Aside0.mk (Kd.R_after (ok := (fun k_ => some k_ ≠ (.slice (some ad122) t118.length aK : Value).ownBlock ∧ some k_ ≠ (.slice bE aP.length bF : Value).ownBlock ∧ some k_ ≠ (aV : Value).ownBlock ∧ some k_ ≠ (v132 : Value).ownBlock ∧ some k_ ≠ (.slice cA y125.length cB : Value).ownBlock)) (qR (Kd.R_mono aJ.out (fun _ hk => ⟨⟨hk.1.1.1, ⟨hk.1.1.2.2.1, ⟨hk.1.1.2.2.2, ⟨hk.1.2, hk.2⟩⟩⟩⟩, hk.1.1.2.1⟩))) hg hat)
      have n3_ := Aside0.mk (Kd.R_after (ok := (fun k_ => some k_ ≠ (.slice (some ad122) t118.length aK : Value).ownBlock ∧ some k_ ≠ (.slice bE aP.length bF : Value).ownBlock ∧ some k_ ≠ (aU : Value).ownBlock ∧ some k_ ≠ (v132 : Value).ownBlock ∧ some k_ ≠ (.slice cA y125.length cB : Value).ownBlock)) (qR (Kd.R_mono aG.out (fun _ hk => ⟨⟨hk.1.1.1, ⟨hk.1.1.2.2.1, ⟨hk.1.1.2.2.2, ⟨hk.1.2, hk.2⟩⟩⟩⟩, hk.1.1.2.1⟩))) hg hat)
      have n4_ := Aside0.mk (blk_grown (qB aC.out) hg (Kd.R_ne aI.out aC.out (by decide)))
      have n5_ := Aside0.mk (blk_grown (qB aD.out) hg (Kd.R_ne aI.out aD.out (by decide)))
      have n6_ := Aside0.mk (blk_grown (qB aA.out) hg (Kd.R_ne aI.out aA.out (by decide)))
      have n7_ := Aside0.mk (Kd.R_after (ok := (fun k_ => some k_ ≠ (.slice (some ad122) t118.length aK : Value).ownBlock ∧ some k_ ≠ (.slice bE aP.length bF : Value).ownBlock ∧ some k_ ≠ (aU : Value).ownBlock ∧ some k_ ≠ (aV : Value).ownBlock ∧ some k_ ≠ (.slice cA y125.length cB : Value).ownBlock)) (qR (Kd.R_mono bN.out (fun _ hk => ⟨⟨hk.1.1.1.1.1.2, ⟨hk.1.1.1.2, ⟨hk.1.1.2, ⟨hk.1.2, hk.2⟩⟩⟩⟩, hk.1.1.1.1.2⟩))) hg hat)
      have n8_ := Aside0.mk (Kd.R_after (ok := (fun k_ => some k_ ≠ (.slice (some ad122) t118.length aK : Value).ownBlock ∧ some k_ ≠ (.slice bE aP.length bF : Value).ownBlock ∧ some k_ ≠ (aU : Value).ownBlock ∧ some k_ ≠ (aV : Value).ownBlock ∧ some k_ ≠ (v132 : Value).ownBlock)) (qR (Kd.R_mono bL.out (fun _ hk => ⟨⟨hk.1.1.1.1.1.2, ⟨hk.1.1.1.2, ⟨hk.1.1.2, ⟨hk.1.2, hk.2⟩⟩⟩⟩, hk.1.1.1.1.2⟩))) hg hat)
      have n9_ := Aside0.mk (hb)
      have bD := Aside0.mk (ho)
      clear aH aE aJ aG aC aD aA bN bL HB aI
      have aH := n0_
      have aE := n1_
      have aJ := n2_
      have aG := n3_
      have aC := n4_
      have aD := n5_
      have aA := n6_
      have bN := n7_
      have bL := n8_
      have HB := n9_
      have bY := bD
      clear n0_ n1_ n2_ n3_ n4_ n5_ n6_ n7_ n8_ n9_ bD ho hb hg hat
      refine hK.out _ _ ⟨(blk_cell aA.out 0).trans rfl, (blk_cell aA.out 1).trans rfl, (blk_cell aA.out 2).trans rfl, (blk_cell aA.out 3).trans rfl, (blk_cell aA.out 4).trans rfl⟩ (fun hHeld => ?_); clear hK K
      refine norm_ (a' := ?_) ?_ ?_; rotate_left
      ·show Act.put _ (some 45) _ = _
       simp only [Act.put, List.setIfInBounds_toArray, List.set_cons_zero, List.set_cons_succ, i64_w, i32_w]
       rfl
      refine pS (i := 10) (N := some 51) #[true, true, true, true, true, true, true, true, true, false, true, false, false, false] rfl rfl HT_.out ?_
      exact norm_ (by simp only [putAll, Act.put, List.setIfInBounds_toArray, List.set_cons_zero, List.set_cons_succ]) (hCont (.slice cA y125.length cB, v129, v132) _ ⟨hHeld, (qR (Kd.R_mono bL.out (fun _ hk => ⟨hk.2, ⟨hk.1.2.2.2.2, ⟨hk.1.2.1, ⟨hk.1.2.2.1, ⟨hk.1.2.2.2.1, hk.1.1⟩⟩⟩⟩⟩))), (qR (Kd.R_mono bY.out (fun _ hk => ⟨hk.2.2.2.2.2, ⟨hk.2.2.2.2.1, ⟨hk.2.1, ⟨hk.2.2.1, ⟨hk.2.2.2.1, hk.1⟩⟩⟩⟩⟩))), (qR (Kd.R_mono bN.out (fun _ hk => ⟨hk.1.2.2.2.2, ⟨hk.2, ⟨hk.1.2.1, ⟨hk.1.2.2.1, ⟨hk.1.2.2.2.1, hk.1.1⟩⟩⟩⟩⟩))), (qR (Kd.R_mono aE.out (fun _ hk => ⟨hk.1.2.2.2.2, ⟨hk.2, ⟨hk.1.2.2.2.1, ⟨hk.1.2.1, ⟨hk.1.2.2.1, hk.1.1⟩⟩⟩⟩⟩))), (qR (Kd.R_mono aJ.out (fun _ hk => ⟨hk.1.2.2.2.2, ⟨hk.2, ⟨hk.1.2.2.2.1, ⟨hk.1.2.1, ⟨hk.1.2.2.1, hk.1.1⟩⟩⟩⟩⟩))), (qR (Kd.R_mono aG.out (fun _ hk => ⟨hk.1.2.2.2.2, ⟨hk.2, ⟨hk.1.2.2.2.1, ⟨hk.1.2.1, ⟨hk.1.2.2.1, hk.1.1⟩⟩⟩⟩⟩))), (qR (Kd.R_mono aH.out (fun _ hk => ⟨hk.1.2.2.2.2, ⟨hk.2, ⟨hk.1.2.2.2.1, ⟨hk.1.1, ⟨hk.1.2.1, hk.1.2.2.1⟩⟩⟩⟩⟩))), (qB aC.out), (qB aD.out), (qB aA.out), (qW HB.out)⟩)
    rintro ⟨v126, v129, v132⟩ w34 ⟨hS_, h0_, h1_, h2_, h3_, h4_, h5_, h6_, h7_, h8_, h9_, h10_⟩
    have n0_ : Aside0 (Kd.R (Kd.int .i64) 3 w34 w.heap.size (fun k_ => some k_ ≠ (v129 : Value).ownBlock ∧ some k_ ≠ (v132 : Value).ownBlock ∧ some k_ ≠ (.slice bE aP.length bF : Value).ownBlock ∧ some k_ ≠ (aU : Value).ownBlock ∧ some k_ ≠ (aV : Value).ownBlock ∧ some k_ ≠ (.slice (some ad122) t118.length aK : Value).ownBlock) v126 y125) := ⟨h0_⟩
    have n1_ : Aside0 (Kd.R (Kd.int .i64) 3 w34 w.heap.size (fun k_ => some k_ ≠ (v126 : Value).ownBlock ∧ some k_ ≠ (v132 : Value).ownBlock ∧ some k_ ≠ (.slice bE aP.length bF : Value).ownBlock ∧ some k_ ≠ (aU : Value).ownBlock ∧ some k_ ≠ (aV : Value).ownBlock ∧ some k_ ≠ (.slice (some ad122) t118.length aK : Value).ownBlock) v129 y128) := ⟨h1_⟩
    have n2_ : Aside0 (Kd.R (Kd.int .i64) 3 w34 w.heap.size (fun k_ => some k_ ≠ (v126 : Value).ownBlock ∧ some k_ ≠ (v129 : Value).ownBlock ∧ some k_ ≠ (.slice bE aP.length bF : Value).ownBlock ∧ some k_ ≠ (aU : Value).ownBlock ∧ some k_ ≠ (aV : Value).ownBlock ∧ some k_ ≠ (.slice (some ad122) t118.length aK : Value).ownBlock) v132 y131) := ⟨h2_⟩
    have n3_ : Aside0 (Kd.R (Kd.int .i64) 3 w34 w.heap.size (fun k_ => some k_ ≠ (v126 : Value).ownBlock ∧ some k_ ≠ (v129 : Value).ownBlock ∧ some k_ ≠ (v132 : Value).ownBlock ∧ some k_ ≠ (aU : Value).ownBlock ∧ some k_ ≠ (aV : Value).ownBlock ∧ some k_ ≠ (.slice (some ad122) t118.length aK : Value).ownBlock) (.slice bE aP.length bF) aP) := ⟨h3_⟩
    have n4_ : Aside0 (Kd.R (Kd.int .i64) 3 w34 w.heap.size (fun k_ => some k_ ≠ (v126 : Value).ownBlock ∧ some k_ ≠ (v129 : Value).ownBlock ∧ some k_ ≠ (v132 : Value).ownBlock ∧ some k_ ≠ (.slice bE aP.length bF : Value).ownBlock ∧ some k_ ≠ (aV : Value).ownBlock ∧ some k_ ≠ (.slice (some ad122) t118.length aK : Value).ownBlock) aU bC) := ⟨h4_⟩
    have n5_ : Aside0 (Kd.R (Kd.int .i64) 3 w34 w.heap.size (fun k_ => some k_ ≠ (v126 : Value).ownBlock ∧ some k_ ≠ (v129 : Value).ownBlock ∧ some k_ ≠ (v132 : Value).ownBlock ∧ some k_ ≠ (.slice bE aP.length bF : Value).ownBlock ∧ some k_ ≠ (aU : Value).ownBlock ∧ some k_ ≠ (.slice (some ad122) t118.length aK : Value).ownBlock) aV aN) := ⟨h5_⟩
    have n6_ : Aside0 (Kd.R (Kd.int .i64) 3 w34 w.heap.size (fun k_ => some k_ ≠ (v126 : Value).ownBlock ∧ some k_ ≠ (v129 : Value).ownBlock ∧ some k_ ≠ (v132 : Value).ownBlock ∧ some k_ ≠ (.slice bE aP.length bF : Value).ownBlock ∧ some k_ ≠ (aU : Value).ownBlock ∧ some k_ ≠ (aV : Value).ownBlock) (.slice (some ad122) t118.length aK) t118) := ⟨h6_⟩
    have n7_ : Aside0 (w34.heap[bB]? = some (.cells #[.slice bU bI.length bV, .slice bW bJ.length bX, .int .i64 aW, .int .i64 aX, .int .i64 aY] 24 (0, 0))) := ⟨h7_⟩
    have n8_ : Aside0 (w34.heap[bA]? = some (.cells #[.slice none 0 0, .slice none 0 0, .slice none 0 0, .slice none 0 0, .int .i64 bT] 28 (0, 0))) := ⟨h8_⟩
    have n9_ : Aside0 (w34.heap[aM]? = some (.cells #[.slice cO bK.length cP, .slice bE aP.length bF, aU, aV, .int .i64 0] 28 (0, 0))) := ⟨h9_⟩
    have bD : Aside0 (Below w.heap.size w w34) := ⟨h10_⟩
    clear aH aI aE aJ aG aC aD aA HB h0_ h1_ h2_ h3_ h4_ h5_ h6_ h7_ h8_ h9_ h10_
    have bL := n0_
    have bY := n1_
    have bN := n2_
    have aE := n3_
    have aJ := n4_
    have aG := n5_
    have aH := n6_
    have aC := n7_
    have aD := n8_
    have aA := n9_
    have HB := bD
    clear n0_ n1_ n2_ n3_ n4_ n5_ n6_ n7_ n8_ n9_ bD
    have hHeld : w34.cell? ⟨aM, 0, none⟩ = some (.slice cO bK.length cP) ∧ w34.cell? ⟨aM, 1, none⟩ = some (.slice bE aP.length bF) ∧ w34.cell? ⟨aM, 2, none⟩ = some (aU) ∧ w34.cell? ⟨aM, 3, none⟩ = some (aV) ∧ w34.cell? ⟨aM, 4, none⟩ = some (.int .i64 0) := hS_
    obtain ⟨dN, dO, fH⟩ := Kd.R_slice bN.out
    (first | subst fH | (injection fH with f1_ f2_ f3_; have f4_ := f1_.symm; have f5_ := f3_.symm; clear f1_ f2_ f3_; subst f4_; subst f5_))
    refine norm_ (a' := ?_) ?_ ?_; rotate_left
    ·simp only [putAll, Act.put, List.setIfInBounds_toArray, List.set_cons_zero, List.set_cons_succ]
     rfl
    refine one_ (i := 9) (N := some 50) #[true, true, true, true, true, true, true, true, true, true, true, false, false, false] rfl rfl (one_of HT_.out (by kernel_rfl)) (by decide) (fun K hK => ?_)
    refine Kd.R_append_rows_step (Kd.int .i64) (w0 := w) w.heap.size (by rfl) (.tmp 47) (.tmp 49) 22 3 (.int .i64 0) 8 rfl Try.underlying22 info3 rfl (by decide) (by omega) (.slice bE aP.length bF) aP y131 _ _ _ (fun k_ => some k_ ≠ (.slice (some ad122) t118.length aK : Value).ownBlock ∧ some k_ ≠ (aU : Value).ownBlock ∧ some k_ ≠ (aV : Value).ownBlock ∧ some k_ ≠ (v126 : Value).ownBlock ∧ some k_ ≠ (v129 : Value).ownBlock ∧ some k_ ≠ (.slice dN y131.length dO : Value).ownBlock) (fun _ => False) rfl rfl ?aO ?aR (fun _ _ h => h) (fun _ h => h.elim) ?aF ?aB ?aS ?aL ?_
    (case aR => repeat (first | exact (Kd.R_reads' bN.out).2.2 | (with_reducible refine Kd.C_alloc ?_ _) | (with_reducible refine Kd.C_drewN ?_ _) | (with_reducible refine Kd.C_drew ?_)))
    (case aB => exact (qW HB.out))
    (case aF => exact (fun k_ hk => ⟨Kd.fresh' (Kd.R_lt (qR aH.out)) k_ hk, Kd.fresh' (Kd.R_lt (qR aJ.out)) k_ hk, Kd.fresh' (Kd.R_lt (qR aG.out)) k_ hk, Kd.fresh' (Kd.R_lt (qR bL.out)) k_ hk, Kd.fresh' (Kd.R_lt (qR bY.out)) k_ hk, Kd.fresh' (Kd.R_lt (qR bN.out)) k_ hk⟩))
    (case aO => exact (qR (Kd.R_mono aE.out (fun _ hk => ⟨hk.2.2.2.2.2, ⟨hk.2.2.2.1, ⟨hk.2.2.2.2.1, ⟨hk.1, ⟨hk.2.1, hk.2.2.1⟩⟩⟩⟩⟩))))
    (case aS => exact (below_size (qW HB.out)))
    (case aL => have := gM.out; omega)
    intro v135 w35 ho hb hg hat
    rw [← gN.out] at ho
    have n0_ := Aside0.mk (Kd.R_after (ok := (fun k_ => some k_ ≠ (aU : Value).ownBlock ∧ some k_ ≠ (aV : Value).ownBlock ∧ some k_ ≠ (v126 : Value).ownBlock ∧ some k_ ≠ (v129 : Value).ownBlock ∧ some k_ ≠ (.slice dN y131.length dO : Value).ownBlock)) (qR (Kd.R_mono aH.out (fun _ hk => ⟨⟨hk.2.2.2.2.1, ⟨hk.2.2.2.2.2, ⟨hk.1, ⟨hk.2.1, hk.2.2.1⟩⟩⟩⟩, hk.2.2.2.1⟩))) hg hat)
    have n1_ := Aside0.mk (Kd.R_after (ok := (fun k_ => some k_ ≠ (.slice (some ad122) t118.length aK : Value).ownBlock ∧ some k_ ≠ (aV : Value).ownBlock ∧ some k_ ≠ (v126 : Value).ownBlock ∧ some k_ ≠ (v129 : Value).ownBlock ∧ some k_ ≠ (.slice dN y131.length dO : Value).ownBlock)) (qR (Kd.R_mono aJ.out (fun _ hk => ⟨⟨hk.2.2.2.2.2, ⟨hk.2.2.2.2.1, ⟨hk.1, ⟨hk.2.1, hk.2.2.1⟩⟩⟩⟩, hk.2.2.2.1⟩))) hg hat)
    have n2_ := Aside0.mk (Kd.R_after (ok := (fun k_ => some k_ ≠ (.slice (some ad122) t118.length aK : Value).ownBlock ∧ some k_ ≠ (aU : Value).ownBlock ∧ some k_ ≠ (v126 : Value).ownBlock ∧ some k_ ≠ (v129 : Value).ownBlock ∧ some k_ ≠ (.slice dN y131.length dO : Value).ownBlock)) (qR (Kd.R_mono aG.out (fun _ hk => ⟨⟨hk.2.2.2.2.2, ⟨hk.2.2.2.2.1, ⟨hk.1, ⟨hk.2.1, hk.2.2.1⟩⟩⟩⟩, hk.2.2.2.1⟩))) hg hat)
    have n3_ := Aside0.mk (blk_grown (qB aC.out) hg (Kd.R_ne aE.out aC.out (by decide)))
    have n4_ := Aside0.mk (blk_grown (qB aD.out) hg (Kd.R_ne aE.out aD.out (by decide)))
    have n5_ := Aside0.mk (blk_grown (qB aA.out) hg (Kd.R_ne aE.out aA.out (by decide)))
    have n6_ := Aside0.mk (Kd.R_after (ok := (fun k_ => some k_ ≠ (.slice (some ad122) t118.length aK : Value).ownBlock ∧ some k_ ≠ (aU : Value).ownBlock ∧ some k_ ≠ (aV : Value).ownBlock ∧ some k_ ≠ (v129 : Value).ownBlock ∧ some k_ ≠ (.slice dN y131.length dO : Value).ownBlock)) (qR (Kd.R_mono bL.out (fun _ hk => ⟨⟨hk.2.2.2.2.2, ⟨hk.2.2.2.1, ⟨hk.2.2.2.2.1, ⟨hk.1, hk.2.1⟩⟩⟩⟩, hk.2.2.1⟩))) hg hat)
    have n7_ := Aside0.mk (Kd.R_after (ok := (fun k_ => some k_ ≠ (.slice (some ad122) t118.length aK : Value).ownBlock ∧ some k_ ≠ (aU : Value).ownBlock ∧ some k_ ≠ (aV : Value).ownBlock ∧ some k_ ≠ (v126 : Value).ownBlock ∧ some k_ ≠ (.slice dN y131.length dO : Value).ownBlock)) (qR (Kd.R_mono bY.out (fun _ hk => ⟨⟨hk.2.2.2.2.2, ⟨hk.2.2.2.1, ⟨hk.2.2.2.2.1, ⟨hk.1, hk.2.1⟩⟩⟩⟩, hk.2.2.1⟩))) hg hat)
    have n8_ := Aside0.mk (Kd.R_after (ok := (fun k_ => some k_ ≠ (.slice (some ad122) t118.length aK : Value).ownBlock ∧ some k_ ≠ (aU : Value).ownBlock ∧ some k_ ≠ (aV : Value).ownBlock ∧ some k_ ≠ (v126 : Value).ownBlock ∧ some k_ ≠ (v129 : Value).ownBlock)) (qR (Kd.R_mono bN.out (fun _ hk => ⟨⟨hk.2.2.2.2.2, ⟨hk.2.2.2.1, ⟨hk.2.2.2.2.1, ⟨hk.1, hk.2.1⟩⟩⟩⟩, hk.2.2.1⟩))) hg hat)
    have n9_ := Aside0.mk (hb)
    have bD := Aside0.mk (ho)
    clear aH aJ aG aC aD aA bL bY bN HB aE
    have aH := n0_
    have aJ := n1_
    have aG := n2_
    have aC := n3_
    have aD := n4_
    have aA := n5_
    have bL := n6_
    have bY := n7_
    have bN := n8_
    have HB := n9_
    have fI := bD
    clear n0_ n1_ n2_ n3_ n4_ n5_ n6_ n7_ n8_ n9_ bD ho hb hg hat
    obtain ⟨cY, cZ, fJ⟩ := Kd.R_slice bY.out
    (first | subst fJ | (injection fJ with f1_ f2_ f3_; have f4_ := f1_.symm; have f5_ := f3_.symm; clear f1_ f2_ f3_; subst f4_; subst f5_))
    obtain ⟨dP, dQ, fK⟩ := Kd.R_slice fI.out
    (first | subst fK | (injection fK with f1_ f2_ f3_; have f4_ := f1_.symm; have f5_ := f3_.symm; clear f1_ f2_ f3_; subst f4_; subst f5_))
    refine hK.out _ _ ⟨(blk_cell aA.out 0).trans rfl, (blk_cell aA.out 1).trans rfl, (blk_cell aA.out 2).trans rfl, (blk_cell aA.out 3).trans rfl, (blk_cell aA.out 4).trans rfl⟩ (fun hHeld => ?_); clear hK K
    refine norm_ (a' := ?_) ?_ ?_; rotate_left
    ·show Act.put _ (some 50) _ = _
     simp only [Act.put, List.setIfInBounds_toArray, List.set_cons_zero, List.set_cons_succ, i64_w, i32_w]
     rfl
    refine last_ (i := 11) (N := none) #[true, true, true, true, true, true, true, true, true, true, true, true, false, false] rfl rfl (one_of HT_.out (by kernel_rfl)) (by decide) (fun K hK => ?_)
    have hs38 : w35.cell? ⟨aM, 0, none⟩ = some (.slice cO bK.length cP) := (blk_cell aA.out 0).trans rfl
    have hfs38 := blk_frozen aA.out 0
    have hns38_0 := cE.out
    have hns38_1 := cF.out
    have hms38_0 := cU.out
    have hms38_1 := dH.out
    refine skip_ (w1 := ?_) (by rfl) rfl ?_ ?_; rotate_left
    ·go_simp
     rfl
    refine hK.out _ _ ?_; clear hK K
    refine pS (i := 12) (N := some 52) #[true, true, true, true, true, true, true, true, true, true, true, true, true, false] rfl rfl HT_.out ?_
    refine last_ (i := 13) (N := none) #[true, true, true, true, true, true, true, true, true, true, true, true, true, true] rfl rfl (one_of HT_.out (by kernel_rfl)) (by decide) (fun K hK => ?_)
    have hs40 : w35.cell? ⟨aM, 1, none⟩ = some (.slice bE aP.length bF) := (blk_cell aA.out 1).trans rfl
    have hfs40 := blk_frozen aA.out 1
    have hns40_0 := cE.out
    have hns40_1 := cF.out
    have hms40_0 := cU.out
    have hms40_1 := dH.out
    refine skip_ (w1 := ?_) (by rfl) rfl ?_ ?_; rotate_left
    ·go_simp
     rfl
    refine hK.out _ _ ?_; clear hK K
    refine done_ (done_of HT_.out (by kernel_rfl)) ?_
    try go_wp2
    go_meet
    case rel => exact ⟨_, (y128), (y134), (.slice cY y128.length cZ), (.slice dP y134.length dQ), H', ⟨by have := HK1.out; first | omega | exact Nat.le_refl _⟩, ⟨by exact qR (Kd.R_mono (Kd.R_far (p := ⟨aM, 1, none⟩) (Kd.R_far (p := ⟨aM, 0, none⟩) (Kd.R_types aH.out aA.out (by decide)) (fun _ hk => hk.2) (.slice cY y128.length cZ)) (fun _ hk => hk.2) (.slice dP y134.length dQ)) (fun _ hk => ⟨hk.1.1.2.2.2.1, ⟨hk.1.2, ⟨hk.1.1.1, hk.1.1.2.1⟩⟩⟩))⟩, ⟨by exact qR (Kd.R_mono (Kd.R_far (p := ⟨aM, 1, none⟩) (Kd.R_far (p := ⟨aM, 0, none⟩) (Kd.R_types bY.out aA.out (by decide)) (fun _ hk => hk.2) (.slice cY y128.length cZ)) (fun _ hk => hk.2) (.slice dP y134.length dQ)) (fun _ hk => ⟨hk.1.1.1, ⟨hk.1.2, ⟨hk.1.1.2.1, hk.1.1.2.2.1⟩⟩⟩))⟩, ⟨by exact qR (Kd.R_mono (Kd.R_far (p := ⟨aM, 1, none⟩) (Kd.R_far (p := ⟨aM, 0, none⟩) (Kd.R_types fI.out aA.out (by decide)) (fun _ hk => hk.2) (.slice cY y128.length cZ)) (fun _ hk => hk.2) (.slice dP y134.length dQ)) (fun _ hk => ⟨hk.1.1, ⟨hk.1.2.2.2.2.1, ⟨hk.1.2.1, hk.1.2.2.1⟩⟩⟩))⟩, ⟨by exact qR (Kd.R_mono (Kd.R_far (p := ⟨aM, 1, none⟩) (Kd.R_far (p := ⟨aM, 0, none⟩) (Kd.R_types aJ.out aA.out (by decide)) (fun _ hk => hk.2) (.slice cY y128.length cZ)) (fun _ hk => hk.2) (.slice dP y134.length dQ)) (fun _ hk => ⟨hk.1.1.1, ⟨hk.1.1.2.2.2.1, ⟨hk.1.2, hk.1.1.2.1⟩⟩⟩))⟩, ⟨by exact qR (Kd.R_mono (Kd.R_far (p := ⟨aM, 1, none⟩) (Kd.R_far (p := ⟨aM, 0, none⟩) (Kd.R_types aG.out aA.out (by decide)) (fun _ hk => hk.2) (.slice cY y128.length cZ)) (fun _ hk => hk.2) (.slice dP y134.length dQ)) (fun _ hk => ⟨hk.1.1.1, ⟨hk.1.1.2.2.2.1, ⟨hk.1.2, hk.1.1.2.1⟩⟩⟩))⟩, ⟨by (with_reducible repeat (first | refine blk_drewN ?_ _ | refine blk_drew ?_ | refine blk_alloc ?_ _)); refine blk_far ?_ cE.out _; (with_reducible repeat (first | refine blk_drewN ?_ _ | refine blk_drew ?_ | refine blk_alloc ?_ _)); refine blk_far ?_ cE.out _; exact qB aC.out⟩, ⟨by (with_reducible repeat (first | refine blk_drewN ?_ _ | refine blk_drew ?_ | refine blk_alloc ?_ _)); refine blk_far ?_ cF.out _; (with_reducible repeat (first | refine blk_drewN ?_ _ | refine blk_drew ?_ | refine blk_alloc ?_ _)); refine blk_far ?_ cF.out _; exact qB aD.out⟩, ⟨by (with_reducible repeat (first | refine blk_drewN ?_ _ | refine blk_drew ?_ | refine blk_alloc ?_ _)); refine blk_put (cs := #[.slice cY y128.length cZ, .slice bE aP.length bF, aU, aV, .int .i64 0]) ?_ 1 _ rfl; (with_reducible repeat (first | refine blk_drewN ?_ _ | refine blk_drew ?_ | refine blk_alloc ?_ _)); refine blk_put (cs := #[.slice cO bK.length cP, .slice bE aP.length bF, aU, aV, .int .i64 0]) ?_ 0 _ rfl; exact qB aA.out⟩, ⟨by repeat (first | (with_reducible first | exact HB.out | apply below_alloc | apply pw_below_drewN | apply below_drew1 | refine below_set ?_ dY.out | refine below_set ?_ dZ.out | refine below_set ?_ eA.out) | exact HB.out)⟩⟩
   case rest =>
    clear eW
    try clear c2
    try clear p2
    try clear p6
    try clear c23
    try clear c24
    obtain ⟨kq, cM, cN, aQ, aT, HA, fL, aH, aI, aE, aJ, aG, aC, aD, aA, HB⟩ := hcut
    cases kq with
    | zero => exact absurd HA.out (by simp [planner_plan.j1])
    | succ eH =>
     have H := HA.out
     clear HA
     simp only [planner_plan.j1] at H
     obtain ⟨y137, eI⟩ : ∃ y_ : List Int, y_ = (([t123] : List Int)) := ⟨_, rfl⟩
     replace H : (if bC.length + y137.length < 17592186044416 then ((some (([wrap64 ((wrap64 (t123 + aX)) + aY)] : List Int) : List Int)).bind fun y143 => (if aN.length + y143.length < 17592186044416 then (planner_plan.l0 sums last eH t123 t118 (t118.length : Int) (wrap64 (aZ + 1)) bI bJ aW aX aY cM cN (bC ++ y137) (aN ++ y143) 0) else (none))) else (none)) = some (r1, r2, r3, r4, r5, r6) := by first | (rw [eI]; with_reducible exact H) | (have H2_ := (Option.bind_some _ _).symm.trans H; rw [eI]; with_reducible exact H2_) | (have H2_ := (Option.bind_some _ _).symm.trans H; with_reducible exact H2_) | with_reducible exact H | (rw [eI]; exact H) | exact H
     have eT := Aside0.mk eI
     clear eI
     by_cases c41 : bC.length + y137.length < 17592186044416
     case neg =>
      rw [if_neg c41] at H
      exact absurd H (by simp)
     rw [if_pos c41] at H
     have eZ := Aside0.mk c41
     clear c41
     obtain ⟨y140, eJ⟩ : ∃ y_ : List Int, y_ = (bC ++ y137) := ⟨_, rfl⟩
     replace H : ((some (([wrap64 ((wrap64 (t123 + aX)) + aY)] : List Int) : List Int)).bind fun y143 => (if aN.length + y143.length < 17592186044416 then (planner_plan.l0 sums last eH t123 t118 (t118.length : Int) (wrap64 (aZ + 1)) bI bJ aW aX aY cM cN y140 (aN ++ y143) 0) else (none))) = some (r1, r2, r3, r4, r5, r6) := by first | (rw [eJ]; with_reducible exact H) | (have H2_ := (Option.bind_some _ _).symm.trans H; rw [eJ]; with_reducible exact H2_) | (have H2_ := (Option.bind_some _ _).symm.trans H; with_reducible exact H2_) | with_reducible exact H | (rw [eJ]; exact H) | exact H
     have fA := Aside0.mk eJ
     clear eJ
     obtain ⟨y143, eK⟩ : ∃ y_ : List Int, y_ = (([wrap64 ((wrap64 (t123 + aX)) + aY)] : List Int)) := ⟨_, rfl⟩
     replace H : (if aN.length + y143.length < 17592186044416 then (planner_plan.l0 sums last eH t123 t118 (t118.length : Int) (wrap64 (aZ + 1)) bI bJ aW aX aY cM cN y140 (aN ++ y143) 0) else (none)) = some (r1, r2, r3, r4, r5, r6) := by first | (rw [eK]; with_reducible exact H) | (have H2_ := (Option.bind_some _ _).symm.trans H; rw [eK]; with_reducible exact H2_) | (have H2_ := (Option.bind_some _ _).symm.trans H; with_reducible exact H2_) | with_reducible exact H | (rw [eK]; exact H) | exact H
     have dR := Aside0.mk eK
     clear eK
     by_cases c42 : aN.length + y143.length < 17592186044416
     case neg =>
      rw [if_neg c42] at H
      exact absurd H (by simp)
     rw [if_pos c42] at H
     have gQ := Aside0.mk c42
     clear c42
     obtain ⟨y146, eL⟩ : ∃ y_ : List Int, y_ = (aN ++ y143) := ⟨_, rfl⟩
     replace H : (planner_plan.l0 sums last eH t123 t118 (t118.length : Int) (wrap64 (aZ + 1)) bI bJ aW aX aY cM cN y140 y146 0) = some (r1, r2, r3, r4, r5, r6) := by first | (rw [eL]; with_reducible exact H) | (have H2_ := (Option.bind_some _ _).symm.trans H; rw [eL]; with_reducible exact H2_) | (have H2_ := (Option.bind_some _ _).symm.trans H; with_reducible exact H2_) | with_reducible exact H | (rw [eL]; exact H) | exact H
     have gR := Aside0.mk eL
     clear eL
     have H' := Aside0.mk H
     clear H
     obtain ⟨cQ, cR, gS⟩ := Kd.R_slice aJ.out
     subst gS
     obtain ⟨bG, bH, gT⟩ := Kd.R_slice aG.out
     subst gT
     try go_wp2
     have n0_ := Aside0.mk (Kd.R_drew aH.out)
     have n1_ := Aside0.mk (Kd.R_drew aI.out)
     have n2_ := Aside0.mk (Kd.R_drew aE.out)
     have n3_ := Aside0.mk (Kd.R_drew aJ.out)
     have n4_ := Aside0.mk (Kd.R_drew aG.out)
     have n5_ := Aside0.mk (blk_drew aC.out)
     have n6_ := Aside0.mk (blk_drew aD.out)
     have n7_ := Aside0.mk (blk_drew aA.out)
     have n8_ := Aside0.mk (below_drew1 HB.out)
     clear aH aI aE aJ aG aC aD aA HB
     have aH := n0_
     have aI := n1_
     have aE := n2_
     have aJ := n3_
     have aG := n4_
     have aC := n5_
     have aD := n6_
     have aA := n7_
     have HB := n8_
     clear n0_ n1_ n2_ n3_ n4_ n5_ n6_ n7_ n8_
     refine start_ (n := 20) (S := fun w' => w'.cell? ⟨aM, 0, none⟩ = some (aQ) ∧ w'.cell? ⟨aM, 1, none⟩ = some (aT) ∧ w'.cell? ⟨aM, 2, none⟩ = some (.slice cQ bC.length cR) ∧ w'.cell? ⟨aM, 3, none⟩ = some (.slice bG aN.length bH) ∧ w'.cell? ⟨aM, 4, none⟩ = some (.int .i64 0) ∧ w'.cell? ⟨bB, 0, none⟩ = some (.slice bU bI.length bV) ∧ w'.cell? ⟨bB, 1, none⟩ = some (.slice bW bJ.length bX) ∧ w'.cell? ⟨bB, 2, none⟩ = some (.int .i64 aW) ∧ w'.cell? ⟨bB, 3, none⟩ = some (.int .i64 aX) ∧ w'.cell? ⟨bB, 4, none⟩ = some (.int .i64 aY)) (ds := [17, 19]) #[false, false, false, false, false, false, false, false, false, false, false, false, false, false, false, false, false, false, false, false] (by kernel_rfl) rfl rfl ⟨(blk_cell aA.out 0).trans rfl, (blk_cell aA.out 1).trans rfl, (blk_cell aA.out 2).trans rfl, (blk_cell aA.out 3).trans rfl, (blk_cell aA.out 4).trans rfl, (blk_cell aC.out 0).trans rfl, (blk_cell aC.out 1).trans rfl, (blk_cell aC.out 2).trans rfl, (blk_cell aC.out 3).trans rfl, (blk_cell aC.out 4).trans rfl⟩ (fun hHeld => ?_); refine with_tabW planner_plan.tab13 planner_plan.bits13 (fun HT_ HW_ => ?_)
     generalize wc.drew = w45 at aH aI aE aJ aG aC aD aA HB hHeld ⊢
     refine pS (i := 0) (N := some 53) #[true, false, false, false, false, false, false, false, false, false, false, false, false, false, false, false, false, false, false, false] rfl rfl HT_.out ?_
     refine pS (i := 2) (N := some 55) #[true, false, true, false, false, false, false, false, false, false, false, false, false, false, false, false, false, false, false, false] rfl rfl HT_.out ?_
     refine pS (i := 5) (N := some 58) #[true, false, true, false, false, true, false, false, false, false, false, false, false, false, false, false, false, false, false, false] rfl rfl HT_.out ?_
     refine pS (i := 7) (N := some 60) #[true, false, true, false, false, true, false, true, false, false, false, false, false, false, false, false, false, false, false, false] rfl rfl HT_.out ?_
     refine pS (i := 8) (N := some 61) #[true, false, true, false, false, true, false, true, true, false, false, false, false, false, false, false, false, false, false, false] rfl rfl HT_.out ?_
     refine pS (i := 11) (N := some 64) #[true, false, true, false, false, true, false, true, true, false, false, true, false, false, false, false, false, false, false, false] rfl rfl HT_.out ?_
     refine take_ (i := 1) (N := some 54) (v := ?_) (a' := ?_) #[true, true, true, false, false, true, false, true, true, false, false, true, false, false, false, false, false, false, false, false] rfl rfl (take_ofW HT_.out HW_.out (by kernel_rfl)) (fun _ _ _ h => h) (Or.inl ⟨by rfl, ?_⟩) hHeld ?_ ?_; rotate_left
     ·rintro w' ⟨s0, s1, s2, s3, s4, s5, s6, s7, s8, s9⟩
      go_simp
      with_reducible rfl
     rotate_left
     ·simp only [Act.put, List.setIfInBounds_toArray, List.set_cons_zero, List.set_cons_succ, i64_w, i32_w]
      rfl
     refine take_ (i := 6) (N := some 59) (v := ?_) (a' := ?_) #[true, true, true, false, false, true, true, true, true, false, false, true, false, false, false, false, false, false, false, false] rfl rfl (take_ofW HT_.out HW_.out (by kernel_rfl)) (fun _ _ _ h => h) (Or.inl ⟨by rfl, ?_⟩) hHeld ?_ ?_; rotate_left
     ·rintro w' ⟨s0, s1, s2, s3, s4, s5, s6, s7, s8, s9⟩
      go_simp
      with_reducible rfl
     rotate_left
     ·simp only [Act.put, List.setIfInBounds_toArray, List.set_cons_zero, List.set_cons_succ, i64_w, i32_w]
      rfl
     refine take_ (i := 9) (N := some 62) (v := ?_) (a' := ?_) #[true, true, true, false, false, true, true, true, true, true, false, true, false, false, false, false, false, false, false, false] rfl rfl (take_ofW HT_.out HW_.out (by kernel_rfl)) (fun _ _ _ h => h) (Or.inl ⟨by rfl, ?_⟩) hHeld ?_ ?_; rotate_left
     ·rintro w' ⟨s0, s1, s2, s3, s4, s5, s6, s7, s8, s9⟩
      go_simp
      with_reducible rfl
     rotate_left
     ·simp only [Act.put, List.setIfInBounds_toArray, List.set_cons_zero, List.set_cons_succ, i64_w, i32_w]
      rfl
     refine pS (i := 10) (N := some 63) #[true, true, true, false, false, true, true, true, true, true, true, true, false, false, false, false, false, false, false, false] rfl rfl HT_.out ?_
     refine take_ (i := 12) (N := some 65) (v := ?_) (a' := ?_) #[true, true, true, false, false, true, true, true, true, true, true, true, true, false, false, false, false, false, false, false] rfl rfl (take_ofW HT_.out HW_.out (by kernel_rfl)) (fun _ _ _ h => h) (Or.inl ⟨by rfl, ?_⟩) hHeld ?_ ?_; rotate_left
     ·rintro w' ⟨s0, s1, s2, s3, s4, s5, s6, s7, s8, s9⟩
      go_simp
      with_reducible rfl
     rotate_left
     ·simp only [Act.put, List.setIfInBounds_toArray, List.set_cons_zero, List.set_cons_succ, i64_w, i32_w]
      rfl
     refine pS (i := 13) (N := some 66) #[true, true, true, false, false, true, true, true, true, true, true, true, true, true, false, false, false, false, false, false] rfl rfl HT_.out ?_
     refine join_ (σ := Value × Value × Value) 4 #[true, true, true, true, true, true, true, true, true, true, true, true, true, true, true, false, true, false, false, false] (fun s_ => [(56, s_.1), (57, s_.2.1), (67, s_.2.2), (69, .pointer (some ⟨aM, 2, none⟩))]) (fun s_ w' => (w'.cell? ⟨aM, 0, none⟩ = some (aQ) ∧ w'.cell? ⟨aM, 1, none⟩ = some (aT) ∧ w'.cell? ⟨aM, 2, none⟩ = some (.slice cQ bC.length cR) ∧ w'.cell? ⟨aM, 3, none⟩ = some (.slice bG aN.length bH) ∧ w'.cell? ⟨aM, 4, none⟩ = some (.int .i64 0) ∧ w'.cell? ⟨bB, 0, none⟩ = some (.slice bU bI.length bV) ∧ w'.cell? ⟨bB, 1, none⟩ = some (.slice bW bJ.length bX) ∧ w'.cell? ⟨bB, 2, none⟩ = some (.int .i64 aW) ∧ w'.cell? ⟨bB, 3, none⟩ = some (.int .i64 aX) ∧ w'.cell? ⟨bB, 4, none⟩ = some (.int .i64 aY)) ∧ (Kd.R (Kd.int .i64) 3 w' w.heap.size (fun k_ => some k_ ≠ (s_.2.1 : Value).ownBlock ∧ some k_ ≠ (s_.2.2 : Value).ownBlock ∧ some k_ ≠ (aQ : Value).ownBlock ∧ some k_ ≠ (aT : Value).ownBlock ∧ some k_ ≠ (.slice bG aN.length bH : Value).ownBlock ∧ some k_ ≠ (.slice (some ad122) t118.length aK : Value).ownBlock) s_.1 y137) ∧ (Kd.R (Kd.int .i64) 3 w' w.heap.size (fun k_ => some k_ ≠ (s_.1 : Value).ownBlock ∧ some k_ ≠ (s_.2.2 : Value).ownBlock ∧ some k_ ≠ (aQ : Value).ownBlock ∧ some k_ ≠ (aT : Value).ownBlock ∧ some k_ ≠ (.slice bG aN.length bH : Value).ownBlock ∧ some k_ ≠ (.slice (some ad122) t118.length aK : Value).ownBlock) s_.2.1 y140) ∧ (Kd.R (Kd.int .i64) 3 w' w.heap.size (fun k_ => some k_ ≠ (s_.1 : Value).ownBlock ∧ some k_ ≠ (s_.2.1 : Value).ownBlock ∧ some k_ ≠ (aQ : Value).ownBlock ∧ some k_ ≠ (aT : Value).ownBlock ∧ some k_ ≠ (.slice bG aN.length bH : Value).ownBlock ∧ some k_ ≠ (.slice (some ad122) t118.length aK : Value).ownBlock) s_.2.2 y143) ∧ (Kd.R (Kd.int .i64) 3 w' w.heap.size (fun k_ => some k_ ≠ (s_.1 : Value).ownBlock ∧ some k_ ≠ (s_.2.1 : Value).ownBlock ∧ some k_ ≠ (s_.2.2 : Value).ownBlock ∧ some k_ ≠ (aT : Value).ownBlock ∧ some k_ ≠ (.slice bG aN.length bH : Value).ownBlock ∧ some k_ ≠ (.slice (some ad122) t118.length aK : Value).ownBlock) aQ cM) ∧ (Kd.R (Kd.int .i64) 3 w' w.heap.size (fun k_ => some k_ ≠ (s_.1 : Value).ownBlock ∧ some k_ ≠ (s_.2.1 : Value).ownBlock ∧ some k_ ≠ (s_.2.2 : Value).ownBlock ∧ some k_ ≠ (aQ : Value).ownBlock ∧ some k_ ≠ (.slice bG aN.length bH : Value).ownBlock ∧ some k_ ≠ (.slice (some ad122) t118.length aK : Value).ownBlock) aT cN) ∧ (Kd.R (Kd.int .i64) 3 w' w.heap.size (fun k_ => some k_ ≠ (s_.1 : Value).ownBlock ∧ some k_ ≠ (s_.2.1 : Value).ownBlock ∧ some k_ ≠ (s_.2.2 : Value).ownBlock ∧ some k_ ≠ (aQ : Value).ownBlock ∧ some k_ ≠ (aT : Value).ownBlock ∧ some k_ ≠ (.slice (some ad122) t118.length aK : Value).ownBlock) (.slice bG aN.length bH) aN) ∧ (Kd.R (Kd.int .i64) 3 w' w.heap.size (fun k_ => some k_ ≠ (s_.1 : Value).ownBlock ∧ some k_ ≠ (s_.2.1 : Value).ownBlock ∧ some k_ ≠ (s_.2.2 : Value).ownBlock ∧ some k_ ≠ (aQ : Value).ownBlock ∧ some k_ ≠ (aT : Value).ownBlock ∧ some k_ ≠ (.slice bG aN.length bH : Value).ownBlock) (.slice (some ad122) t118.length aK) t118) ∧ (w'.heap[bB]? = some (.cells #[.slice bU bI.length bV, .slice bW bJ.length bX, .int .i64 aW, .int .i64 aX, .int .i64 aY] 24 (0, 0))) ∧ (w'.heap[bA]? = some (.cells #[.slice none 0 0, .slice none 0 0, .slice none 0 0, .slice none 0 0, .int .i64 bT] 28 (0, 0))) ∧ (w'.heap[aM]? = some (.cells #[aQ, aT, .slice cQ bC.length cR, .slice bG aN.length bH, .int .i64 0] 28 (0, 0))) ∧ (Below w.heap.size w w')) ?_ ?_; rotate_left
     ·intro hCont
      refine two_ (i := 3) (j := 14) (Ni := some 56) (Nj := some 67) #[true, true, true, true, false, true, true, true, true, true, true, true, true, true, false, false, false, false, false, false] #[true, true, true, false, false, true, true, true, true, true, true, true, true, true, true, false, false, false, false, false] rfl rfl rfl rfl (two_of HT_.out (by kernel_rfl)) (by decide) (by decide) (fun K hK => ?_) (fun K hK => ?_)
      ·skip
       refine Kd.R_lit_step (Kd.int .i64) _ 3 ?hg (N := 56) ?hd (xs := ([t123] : List Int)) (inner := [.int .i64 t123]) (ok := fun _ => True) (okp := fun _ => True) ?hr ?hp (fun _ hk => hk) trivial (Below.refl _ _) (Nat.le_refl _) (by simp) ?_; (case hd => rfl); (case hg => rfl); (case hr => first | (go_simp; done) | (go_simp; rfl)); (case hp => exact (Reps.one (show Kd.M (Kd.int .i64) _ _ _ t123 [.int .i64 t123] from rfl) (Reps.none _ _)))
       intro v138 w46 bS hb hg_ hnew_
       clear hg_ hnew_
       (first | rw [← eT.out] at bS | (simp only [Int.reduceToNat] at bS; rw [← eT.out] at bS))
       have n0_ := Aside0.mk (Kd.R_elder' (qR aH.out) (Kd.R_base bS) hb)
       have n1_ := Aside0.mk (Kd.R_elder' (qR aI.out) (Kd.R_base bS) hb)
       have n2_ := Aside0.mk (Kd.R_elder' (qR aE.out) (Kd.R_base bS) hb)
       have n3_ := Aside0.mk (Kd.R_elder' (qR aJ.out) (Kd.R_base bS) hb)
       have n4_ := Aside0.mk (Kd.R_elder' (qR aG.out) (Kd.R_base bS) hb)
       have n5_ := Aside0.mk (Kd.R_lower (Kd.R_new' (Kd.R_new' (Kd.R_new' (Kd.R_new' (Kd.R_new' bS (Kd.R_lt (qR aH.out))) (Kd.R_lt (qR aI.out))) (Kd.R_lt (qR aE.out))) (Kd.R_lt (qR aJ.out))) (Kd.R_lt (qR aG.out))) (below_size (qW HB.out)))
       have n6_ := Aside0.mk (blk_below (qB aC.out) hb)
       have n7_ := Aside0.mk (blk_below (qB aD.out) hb)
       have n8_ := Aside0.mk (blk_below (qB aA.out) hb)
       have n9_ := Aside0.mk (below_step (qW HB.out) hb)
       clear aH aI aE aJ aG aC aD aA HB
       have aH := n0_
       have aI := n1_
       have aE := n2_
       have aJ := n3_
       have aG := n4_
       have bM := n5_
       have aC := n6_
       have aD := n7_
       have aA := n8_
       have HB := n9_
       clear n0_ n1_ n2_ n3_ n4_ n5_ n6_ n7_ n8_ n9_ hb bS
       obtain ⟨dS, dT, fM⟩ := Kd.R_slice bM.out
       (first | subst fM | (injection fM with f1_ f2_ f3_; have f4_ := f1_.symm; have f5_ := f3_.symm; clear f1_ f2_ f3_; subst f4_; subst f5_))
       refine hK.out _ _ ⟨(blk_cell aA.out 0).trans rfl, (blk_cell aA.out 1).trans rfl, (blk_cell aA.out 2).trans rfl, (blk_cell aA.out 3).trans rfl, (blk_cell aA.out 4).trans rfl, (blk_cell aC.out 0).trans rfl, (blk_cell aC.out 1).trans rfl, (blk_cell aC.out 2).trans rfl, (blk_cell aC.out 3).trans rfl, (blk_cell aC.out 4).trans rfl⟩ (fun hHeld => ?_); clear hK K
       refine norm_ (a' := ?_) ?_ ?_; rotate_left
       ·show Act.put _ (some 56) _ = _
        simp only [Act.put, List.setIfInBounds_toArray, List.set_cons_zero, List.set_cons_succ, i64_w, i32_w]
        rfl
       refine two_ (i := 4) (j := 14) (Ni := some 57) (Nj := some 67) #[true, true, true, true, true, true, true, true, true, true, true, true, true, true, false, false, false, false, false, false] #[true, true, true, true, false, true, true, true, true, true, true, true, true, true, true, false, false, false, false, false] rfl rfl rfl rfl (two_of HT_.out (by kernel_rfl)) (by decide) (by decide) (fun K hK => ?_) (fun K hK => ?_)
       ·skip
        refine Kd.R_append_rows_step (Kd.int .i64) (w0 := w) w.heap.size (by rfl) (.tmp 54) (.tmp 56) 22 3 (.int .i64 0) 8 rfl Try.underlying22 info3 rfl (by decide) (by omega) (.slice cQ bC.length cR) bC y137 _ _ _ (fun k_ => some k_ ≠ (.slice (some ad122) t118.length aK : Value).ownBlock ∧ some k_ ≠ (aQ : Value).ownBlock ∧ some k_ ≠ (aT : Value).ownBlock ∧ some k_ ≠ (.slice bG aN.length bH : Value).ownBlock ∧ some k_ ≠ (.slice dS y137.length dT : Value).ownBlock) (fun _ => False) rfl rfl ?aO ?aR (fun _ _ h => h) (fun _ h => h.elim) ?aF ?aB ?aS ?aL ?_
        (case aR => repeat (first | exact (Kd.R_reads' bM.out).2.2 | (with_reducible refine Kd.C_alloc ?_ _) | (with_reducible refine Kd.C_drewN ?_ _) | (with_reducible refine Kd.C_drew ?_)))
        (case aB => exact (qW HB.out))
        (case aF => exact (fun k_ hk => ⟨Kd.fresh' (Kd.R_lt (qR aH.out)) k_ hk, Kd.fresh' (Kd.R_lt (qR aI.out)) k_ hk, Kd.fresh' (Kd.R_lt (qR aE.out)) k_ hk, Kd.fresh' (Kd.R_lt (qR aG.out)) k_ hk, Kd.fresh' (Kd.R_lt (qR bM.out)) k_ hk⟩))
        (case aO => exact (qR (Kd.R_mono aJ.out (fun _ hk => ⟨hk.1.1, ⟨hk.1.2.1, ⟨hk.1.2.2.1, ⟨hk.1.2.2.2, hk.2⟩⟩⟩⟩))))
        (case aS => exact (below_size (qW HB.out)))
        (case aL => have := eZ.out; omega)
        intro v141 w48 ho hb hg hat
        rw [← fA.out] at ho
        have n0_ := Aside0.mk (Kd.R_after (ok := (fun k_ => some k_ ≠ (aQ : Value).ownBlock ∧ some k_ ≠ (aT : Value).ownBlock ∧ some k_ ≠ (.slice bG aN.length bH : Value).ownBlock ∧ some k_ ≠ (.slice dS y137.length dT : Value).ownBlock)) (qR (Kd.R_mono aH.out (fun _ hk => ⟨⟨hk.1.1, ⟨hk.1.2.1, ⟨hk.1.2.2.2, hk.2⟩⟩⟩, hk.1.2.2.1⟩))) hg hat)
        have n1_ := Aside0.mk (Kd.R_after (ok := (fun k_ => some k_ ≠ (.slice (some ad122) t118.length aK : Value).ownBlock ∧ some k_ ≠ (aT : Value).ownBlock ∧ some k_ ≠ (.slice bG aN.length bH : Value).ownBlock ∧ some k_ ≠ (.slice dS y137.length dT : Value).ownBlock)) (qR (Kd.R_mono aI.out (fun _ hk => ⟨⟨hk.1.1, ⟨hk.1.2.1, ⟨hk.1.2.2.2, hk.2⟩⟩⟩, hk.1.2.2.1⟩))) hg hat)
        have n2_ := Aside0.mk (Kd.R_after (ok := (fun k_ => some k_ ≠ (.slice (some ad122) t118.length aK : Value).ownBlock ∧ some k_ ≠ (aQ : Value).ownBlock ∧ some k_ ≠ (.slice bG aN.length bH : Value).ownBlock ∧ some k_ ≠ (.slice dS y137.length dT : Value).ownBlock)) (qR (Kd.R_mono aE.out (fun _ hk => ⟨⟨hk.1.1, ⟨hk.1.2.1, ⟨hk.1.2.2.2, hk.2⟩⟩⟩, hk.1.2.2.1⟩))) hg hat)
        have n3_ := Aside0.mk (Kd.R_after (ok := (fun k_ => some k_ ≠ (.slice (some ad122) t118.length aK : Value).ownBlock ∧ some k_ ≠ (aQ : Value).ownBlock ∧ some k_ ≠ (aT : Value).ownBlock ∧ some k_ ≠ (.slice dS y137.length dT : Value).ownBlock)) (qR (Kd.R_mono aG.out (fun _ hk => ⟨⟨hk.1.1, ⟨hk.1.2.1, ⟨hk.1.2.2.1, hk.2⟩⟩⟩, hk.1.2.2.2⟩))) hg hat)
        have n4_ := Aside0.mk (blk_grown (qB aC.out) hg (Kd.R_ne aJ.out aC.out (by decide)))
        have n5_ := Aside0.mk (blk_grown (qB aD.out) hg (Kd.R_ne aJ.out aD.out (by decide)))
        have n6_ := Aside0.mk (blk_grown (qB aA.out) hg (Kd.R_ne aJ.out aA.out (by decide)))
        have n7_ := Aside0.mk (Kd.R_after (ok := (fun k_ => some k_ ≠ (.slice (some ad122) t118.length aK : Value).ownBlock ∧ some k_ ≠ (aQ : Value).ownBlock ∧ some k_ ≠ (aT : Value).ownBlock ∧ some k_ ≠ (.slice bG aN.length bH : Value).ownBlock)) (qR (Kd.R_mono bM.out (fun _ hk => ⟨⟨hk.1.1.1.1.2, ⟨hk.1.1.1.2, ⟨hk.1.1.2, hk.2⟩⟩⟩, hk.1.2⟩))) hg hat)
        have n8_ := Aside0.mk (hb)
        have n9_ := Aside0.mk (ho)
        clear aH aI aE aG aC aD aA bM HB aJ
        have aH := n0_
        have aI := n1_
        have aE := n2_
        have aG := n3_
        have aC := n4_
        have aD := n5_
        have aA := n6_
        have bM := n7_
        have HB := n8_
        have bZ := n9_
        clear n0_ n1_ n2_ n3_ n4_ n5_ n6_ n7_ n8_ n9_ ho hb hg hat
        refine hK.out _ _ ⟨(blk_cell aA.out 0).trans rfl, (blk_cell aA.out 1).trans rfl, (blk_cell aA.out 2).trans rfl, (blk_cell aA.out 3).trans rfl, (blk_cell aA.out 4).trans rfl, (blk_cell aC.out 0).trans rfl, (blk_cell aC.out 1).trans rfl, (blk_cell aC.out 2).trans rfl, (blk_cell aC.out 3).trans rfl, (blk_cell aC.out 4).trans rfl⟩ (fun hHeld => ?_); clear hK K
        refine norm_ (a' := ?_) ?_ ?_; rotate_left
        ·show Act.put _ (some 57) _ = _
         simp only [Act.put, List.setIfInBounds_toArray, List.set_cons_zero, List.set_cons_succ, i64_w, i32_w]
         rfl
        refine pS (i := 16) (N := some 69) #[true, true, true, true, true, true, true, true, true, true, true, true, true, true, false, false, true, false, false, false] rfl rfl HT_.out ?_
        refine one_ (i := 14) (N := some 67) #[true, true, true, true, true, true, true, true, true, true, true, true, true, true, true, false, true, false, false, false] rfl rfl (one_of HT_.out (by kernel_rfl)) (by decide) (fun K hK => ?_)
        refine Kd.R_lit_step (Kd.int .i64) _ 3 ?hg (N := 67) ?hd (xs := ([wrap64 ((wrap64 (t123 + aX)) + aY)] : List Int)) (inner := [.int .i64 (wrap64 ((wrap64 (t123 + aX)) + aY))]) (ok := fun _ => True) (okp := fun _ => True) ?hr ?hp (fun _ hk => hk) trivial (Below.refl _ _) (Nat.le_refl _) (by simp) ?_; (case hd => rfl); (case hg => rfl); (case hr => first | (go_simp; done) | (go_simp; rfl)); (case hp => exact (Reps.one (show Kd.M (Kd.int .i64) _ _ _ (wrap64 ((wrap64 (t123 + aX)) + aY)) [.int .i64 (wrap64 ((wrap64 (t123 + aX)) + aY))] from rfl) (Reps.none _ _)))
        intro v144 w50 cJ hb hg_ hnew_
        clear hg_ hnew_
        (first | rw [← dR.out] at cJ | (simp only [Int.reduceToNat] at cJ; rw [← dR.out] at cJ))
        have n0_ := Aside0.mk (Kd.R_elder' (qR aH.out) (Kd.R_base cJ) hb)
        have n1_ := Aside0.mk (Kd.R_elder' (qR aI.out) (Kd.R_base cJ) hb)
        have n2_ := Aside0.mk (Kd.R_elder' (qR aE.out) (Kd.R_base cJ) hb)
        have n3_ := Aside0.mk (Kd.R_elder' (qR aG.out) (Kd.R_base cJ) hb)
        have n4_ := Aside0.mk (Kd.R_elder' (qR bM.out) (Kd.R_base cJ) hb)
        have n5_ := Aside0.mk (Kd.R_elder' (qR bZ.out) (Kd.R_base cJ) hb)
        have n6_ := Aside0.mk (Kd.R_lower (Kd.R_new' (Kd.R_new' (Kd.R_new' (Kd.R_new' (Kd.R_new' (Kd.R_new' cJ (Kd.R_lt (qR aH.out))) (Kd.R_lt (qR aI.out))) (Kd.R_lt (qR aE.out))) (Kd.R_lt (qR aG.out))) (Kd.R_lt (qR bM.out))) (Kd.R_lt (qR bZ.out))) (below_size (qW HB.out)))
        have n7_ := Aside0.mk (blk_below (qB aC.out) hb)
        have n8_ := Aside0.mk (blk_below (qB aD.out) hb)
        have n9_ := Aside0.mk (blk_below (qB aA.out) hb)
        have bD := Aside0.mk (below_step (qW HB.out) hb)
        clear aH aI aE aG bM bZ aC aD aA HB
        have aH := n0_
        have aI := n1_
        have aE := n2_
        have aG := n3_
        have bM := n4_
        have bZ := n5_
        have bO := n6_
        have aC := n7_
        have aD := n8_
        have aA := n9_
        have HB := bD
        clear n0_ n1_ n2_ n3_ n4_ n5_ n6_ n7_ n8_ n9_ bD hb cJ
        refine hK.out _ _ ⟨(blk_cell aA.out 0).trans rfl, (blk_cell aA.out 1).trans rfl, (blk_cell aA.out 2).trans rfl, (blk_cell aA.out 3).trans rfl, (blk_cell aA.out 4).trans rfl, (blk_cell aC.out 0).trans rfl, (blk_cell aC.out 1).trans rfl, (blk_cell aC.out 2).trans rfl, (blk_cell aC.out 3).trans rfl, (blk_cell aC.out 4).trans rfl⟩ (fun hHeld => ?_); clear hK K
        refine norm_ (a' := ?_) ?_ ?_; rotate_left
        ·show Act.put _ (some 67) _ = _
         simp only [Act.put, List.setIfInBounds_toArray, List.set_cons_zero, List.set_cons_succ, i64_w, i32_w]
         rfl
        exact norm_ (by simp only [putAll, Act.put, List.setIfInBounds_toArray, List.set_cons_zero, List.set_cons_succ]) (hCont (.slice dS y137.length dT, v141, v144) _ ⟨hHeld, (qR (Kd.R_mono bM.out (fun _ hk => ⟨hk.1.2, ⟨hk.2, ⟨hk.1.1.2.1, ⟨hk.1.1.2.2.1, ⟨hk.1.1.2.2.2, hk.1.1.1⟩⟩⟩⟩⟩))), (qR (Kd.R_mono bZ.out (fun _ hk => ⟨hk.1.2.2.2.2, ⟨hk.2, ⟨hk.1.2.1, ⟨hk.1.2.2.1, ⟨hk.1.2.2.2.1, hk.1.1⟩⟩⟩⟩⟩))), (qR (Kd.R_mono bO.out (fun _ hk => ⟨hk.1.2, ⟨hk.2, ⟨hk.1.1.1.1.2, ⟨hk.1.1.1.2, ⟨hk.1.1.2, hk.1.1.1.1.1.2⟩⟩⟩⟩⟩))), (qR (Kd.R_mono aI.out (fun _ hk => ⟨hk.1.1.2.2.2, ⟨hk.1.2, ⟨hk.2, ⟨hk.1.1.2.1, ⟨hk.1.1.2.2.1, hk.1.1.1⟩⟩⟩⟩⟩))), (qR (Kd.R_mono aE.out (fun _ hk => ⟨hk.1.1.2.2.2, ⟨hk.1.2, ⟨hk.2, ⟨hk.1.1.2.1, ⟨hk.1.1.2.2.1, hk.1.1.1⟩⟩⟩⟩⟩))), (qR (Kd.R_mono aG.out (fun _ hk => ⟨hk.1.1.2.2.2, ⟨hk.1.2, ⟨hk.2, ⟨hk.1.1.2.1, ⟨hk.1.1.2.2.1, hk.1.1.1⟩⟩⟩⟩⟩))), (qR (Kd.R_mono aH.out (fun _ hk => ⟨hk.1.1.2.2.2, ⟨hk.1.2, ⟨hk.2, ⟨hk.1.1.1, ⟨hk.1.1.2.1, hk.1.1.2.2.1⟩⟩⟩⟩⟩))), (qB aC.out), (qB aD.out), (qB aA.out), (qW HB.out)⟩)
       ·skip
        refine Kd.R_lit_step (Kd.int .i64) _ 3 ?hg (N := 67) ?hd (xs := ([wrap64 ((wrap64 (t123 + aX)) + aY)] : List Int)) (inner := [.int .i64 (wrap64 ((wrap64 (t123 + aX)) + aY))]) (ok := fun _ => True) (okp := fun _ => True) ?hr ?hp (fun _ hk => hk) trivial (Below.refl _ _) (Nat.le_refl _) (by simp) ?_; (case hd => rfl); (case hg => rfl); (case hr => first | (go_simp; done) | (go_simp; rfl)); (case hp => exact (Reps.one (show Kd.M (Kd.int .i64) _ _ _ (wrap64 ((wrap64 (t123 + aX)) + aY)) [.int .i64 (wrap64 ((wrap64 (t123 + aX)) + aY))] from rfl) (Reps.none _ _)))
        intro v144 w48 bQ hb hg_ hnew_
        clear hg_ hnew_
        (first | rw [← dR.out] at bQ | (simp only [Int.reduceToNat] at bQ; rw [← dR.out] at bQ))
        have n0_ := Aside0.mk (Kd.R_elder' (qR aH.out) (Kd.R_base bQ) hb)
        have n1_ := Aside0.mk (Kd.R_elder' (qR aI.out) (Kd.R_base bQ) hb)
        have n2_ := Aside0.mk (Kd.R_elder' (qR aE.out) (Kd.R_base bQ) hb)
        have n3_ := Aside0.mk (Kd.R_elder' (qR aJ.out) (Kd.R_base bQ) hb)
        have n4_ := Aside0.mk (Kd.R_elder' (qR aG.out) (Kd.R_base bQ) hb)
        have n5_ := Aside0.mk (Kd.R_elder' (qR bM.out) (Kd.R_base bQ) hb)
        have n6_ := Aside0.mk (Kd.R_lower (Kd.R_new' (Kd.R_new' (Kd.R_new' (Kd.R_new' (Kd.R_new' (Kd.R_new' bQ (Kd.R_lt (qR aH.out))) (Kd.R_lt (qR aI.out))) (Kd.R_lt (qR aE.out))) (Kd.R_lt (qR aJ.out))) (Kd.R_lt (qR aG.out))) (Kd.R_lt (qR bM.out))) (below_size (qW HB.out)))
        have n7_ := Aside0.mk (blk_below (qB aC.out) hb)
        have n8_ := Aside0.mk (blk_below (qB aD.out) hb)
        have n9_ := Aside0.mk (blk_below (qB aA.out) hb)
        have bD := Aside0.mk (below_step (qW HB.out) hb)
        clear aH aI aE aJ aG bM aC aD aA HB
        have aH := n0_
        have aI := n1_
        have aE := n2_
        have aJ := n3_
        have aG := n4_
        have bM := n5_
        have bO := n6_
        have aC := n7_
        have aD := n8_
        have aA := n9_
        have HB := bD
        clear n0_ n1_ n2_ n3_ n4_ n5_ n6_ n7_ n8_ n9_ bD hb bQ
        obtain ⟨cC, cD, eM⟩ := Kd.R_slice bM.out
        (first | subst eM | (injection eM with f1_ f2_ f3_; have f4_ := f1_.symm; have f5_ := f3_.symm; clear f1_ f2_ f3_; subst f4_; subst f5_))
        refine hK.out _ _ ⟨(blk_cell aA.out 0).trans rfl, (blk_cell aA.out 1).trans rfl, (blk_cell aA.out 2).trans rfl, (blk_cell aA.out 3).trans rfl, (blk_cell aA.out 4).trans rfl, (blk_cell aC.out 0).trans rfl, (blk_cell aC.out 1).trans rfl, (blk_cell aC.out 2).trans rfl, (blk_cell aC.out 3).trans rfl, (blk_cell aC.out 4).trans rfl⟩ (fun hHeld => ?_); clear hK K
        refine norm_ (a' := ?_) ?_ ?_; rotate_left
        ·show Act.put _ (some 67) _ = _
         simp only [Act.put, List.setIfInBounds_toArray, List.set_cons_zero, List.set_cons_succ, i64_w, i32_w]
         rfl
        refine one_ (i := 4) (N := some 57) #[true, true, true, true, true, true, true, true, true, true, true, true, true, true, true, false, false, false, false, false] rfl rfl (one_of HT_.out (by kernel_rfl)) (by decide) (fun K hK => ?_)
        refine Kd.R_append_rows_step (Kd.int .i64) (w0 := w) w.heap.size (by rfl) (.tmp 54) (.tmp 56) 22 3 (.int .i64 0) 8 rfl Try.underlying22 info3 rfl (by decide) (by omega) (.slice cQ bC.length cR) bC y137 _ _ _ (fun k_ => some k_ ≠ (.slice (some ad122) t118.length aK : Value).ownBlock ∧ some k_ ≠ (aQ : Value).ownBlock ∧ some k_ ≠ (aT : Value).ownBlock ∧ some k_ ≠ (.slice bG aN.length bH : Value).ownBlock ∧ some k_ ≠ (.slice cC y137.length cD : Value).ownBlock ∧ some k_ ≠ (v144 : Value).ownBlock) (fun _ => False) rfl rfl ?aO ?aR (fun _ _ h => h) (fun _ h => h.elim) ?aF ?aB ?aS ?aL ?_
        (case aR => repeat (first | exact (Kd.R_reads' bM.out).2.2 | (with_reducible refine Kd.C_alloc ?_ _) | (with_reducible refine Kd.C_drewN ?_ _) | (with_reducible refine Kd.C_drew ?_)))
        (case aB => exact (qW HB.out))
        (case aF => exact (fun k_ hk => ⟨Kd.fresh' (Kd.R_lt (qR aH.out)) k_ hk, Kd.fresh' (Kd.R_lt (qR aI.out)) k_ hk, Kd.fresh' (Kd.R_lt (qR aE.out)) k_ hk, Kd.fresh' (Kd.R_lt (qR aG.out)) k_ hk, Kd.fresh' (Kd.R_lt (qR bM.out)) k_ hk, Kd.fresh' (Kd.R_lt (qR bO.out)) k_ hk⟩))
        (case aO => exact (qR (Kd.R_mono aJ.out (fun _ hk => ⟨hk.1.1.1, ⟨hk.1.1.2.1, ⟨hk.1.1.2.2.1, ⟨hk.1.1.2.2.2, ⟨hk.1.2, hk.2⟩⟩⟩⟩⟩))))
        (case aS => exact (below_size (qW HB.out)))
        (case aL => have := eZ.out; omega)
        intro v141 w50 ho hb hg hat
        rw [← fA.out] at ho
        have n0_ := Aside0.mk (Kd.R_after (ok := (fun k_ => some k_ ≠ (aQ : Value).ownBlock ∧ some k_ ≠ (aT : Value).ownBlock ∧ some k_ ≠ (.slice bG aN.length bH : Value).ownBlock ∧ some k_ ≠ (.slice cC y137.length cD : Value).ownBlock ∧ some k_ ≠ (v144 : Value).ownBlock)) (qR (Kd.R_mono aH.out (fun _ hk => ⟨⟨hk.1.1.1, ⟨hk.1.1.2.1, ⟨hk.1.1.2.2.2, ⟨hk.1.2, hk.2⟩⟩⟩⟩, hk.1.1.2.2.1⟩))) hg hat)
        have n1_ := Aside0.mk (Kd.R_after (ok := (fun k_ => some k_ ≠ (.slice (some ad122) t118.length aK : Value).ownBlock ∧ some k_ ≠ (aT : Value).ownBlock ∧ some k_ ≠ (.slice bG aN.length bH : Value).ownBlock ∧ some k_ ≠ (.slice cC y137.length cD : Value).ownBlock ∧ some k_ ≠ (v144 : Value).ownBlock)) (qR (Kd.R_mono aI.out (fun _ hk => ⟨⟨hk.1.1.1, ⟨hk.1.1.2.1, ⟨hk.1.1.2.2.2, ⟨hk.1.2, hk.2⟩⟩⟩⟩, hk.1.1.2.2.1⟩))) hg hat)
        have n2_ := Aside0.mk (Kd.R_after (ok := (fun k_ => some k_ ≠ (.slice (some ad122) t118.length aK : Value).ownBlock ∧ some k_ ≠ (aQ : Value).ownBlock ∧ some k_ ≠ (.slice bG aN.length bH : Value).ownBlock ∧ some k_ ≠ (.slice cC y137.length cD : Value).ownBlock ∧ some k_ ≠ (v144 : Value).ownBlock)) (qR (Kd.R_mono aE.out (fun _ hk => ⟨⟨hk.1.1.1, ⟨hk.1.1.2.1, ⟨hk.1.1.2.2.2, ⟨hk.1.2, hk.2⟩⟩⟩⟩, hk.1.1.2.2.1⟩))) hg hat)
        have n3_ := Aside0.mk (Kd.R_after (ok := (fun k_ => some k_ ≠ (.slice (some ad122) t118.length aK : Value).ownBlock ∧ some k_ ≠ (aQ : Value).ownBlock ∧ some k_ ≠ (aT : Value).ownBlock ∧ some k_ ≠ (.slice cC y137.length cD : Value).ownBlock ∧ some k_ ≠ (v144 : Value).ownBlock)) (qR (Kd.R_mono aG.out (fun _ hk => ⟨⟨hk.1.1.1, ⟨hk.1.1.2.1, ⟨hk.1.1.2.2.1, ⟨hk.1.2, hk.2⟩⟩⟩⟩, hk.1.1.2.2.2⟩))) hg hat)
        have n4_ := Aside0.mk (blk_grown (qB aC.out) hg (Kd.R_ne aJ.out aC.out (by decide)))
        have n5_ := Aside0.mk (blk_grown (qB aD.out) hg (Kd.R_ne aJ.out aD.out (by decide)))
        have n6_ := Aside0.mk (blk_grown (qB aA.out) hg (Kd.R_ne aJ.out aA.out (by decide)))
        have n7_ := Aside0.mk (Kd.R_after (ok := (fun k_ => some k_ ≠ (.slice (some ad122) t118.length aK : Value).ownBlock ∧ some k_ ≠ (aQ : Value).ownBlock ∧ some k_ ≠ (aT : Value).ownBlock ∧ some k_ ≠ (.slice bG aN.length bH : Value).ownBlock ∧ some k_ ≠ (v144 : Value).ownBlock)) (qR (Kd.R_mono bM.out (fun _ hk => ⟨⟨hk.1.1.1.1.1.2, ⟨hk.1.1.1.1.2, ⟨hk.1.1.1.2, ⟨hk.1.2, hk.2⟩⟩⟩⟩, hk.1.1.2⟩))) hg hat)
        have n8_ := Aside0.mk (Kd.R_after (ok := (fun k_ => some k_ ≠ (.slice (some ad122) t118.length aK : Value).ownBlock ∧ some k_ ≠ (aQ : Value).ownBlock ∧ some k_ ≠ (aT : Value).ownBlock ∧ some k_ ≠ (.slice bG aN.length bH : Value).ownBlock ∧ some k_ ≠ (.slice cC y137.length cD : Value).ownBlock)) (qR (Kd.R_mono bO.out (fun _ hk => ⟨⟨hk.1.1.1.1.1.2, ⟨hk.1.1.1.1.2, ⟨hk.1.1.1.2, ⟨hk.1.2, hk.2⟩⟩⟩⟩, hk.1.1.2⟩))) hg hat)
        have n9_ := Aside0.mk (hb)
        have bD := Aside0.mk (ho)
        clear aH aI aE aG aC aD aA bM bO HB aJ
        have aH := n0_
        have aI := n1_
        have aE := n2_
        have aG := n3_
        have aC := n4_
        have aD := n5_
        have aA := n6_
        have bM := n7_
        have bO := n8_
        have HB := n9_
        have bZ := bD
        clear n0_ n1_ n2_ n3_ n4_ n5_ n6_ n7_ n8_ n9_ bD ho hb hg hat
        refine hK.out _ _ ⟨(blk_cell aA.out 0).trans rfl, (blk_cell aA.out 1).trans rfl, (blk_cell aA.out 2).trans rfl, (blk_cell aA.out 3).trans rfl, (blk_cell aA.out 4).trans rfl, (blk_cell aC.out 0).trans rfl, (blk_cell aC.out 1).trans rfl, (blk_cell aC.out 2).trans rfl, (blk_cell aC.out 3).trans rfl, (blk_cell aC.out 4).trans rfl⟩ (fun hHeld => ?_); clear hK K
        refine norm_ (a' := ?_) ?_ ?_; rotate_left
        ·show Act.put _ (some 57) _ = _
         simp only [Act.put, List.setIfInBounds_toArray, List.set_cons_zero, List.set_cons_succ, i64_w, i32_w]
         rfl
        refine pS (i := 16) (N := some 69) #[true, true, true, true, true, true, true, true, true, true, true, true, true, true, true, false, true, false, false, false] rfl rfl HT_.out ?_
        exact norm_ (by simp only [putAll, Act.put, List.setIfInBounds_toArray, List.set_cons_zero, List.set_cons_succ]) (hCont (.slice cC y137.length cD, v141, v144) _ ⟨hHeld, (qR (Kd.R_mono bM.out (fun _ hk => ⟨hk.2, ⟨hk.1.2.2.2.2, ⟨hk.1.2.1, ⟨hk.1.2.2.1, ⟨hk.1.2.2.2.1, hk.1.1⟩⟩⟩⟩⟩))), (qR (Kd.R_mono bZ.out (fun _ hk => ⟨hk.2.2.2.2.1, ⟨hk.2.2.2.2.2, ⟨hk.2.1, ⟨hk.2.2.1, ⟨hk.2.2.2.1, hk.1⟩⟩⟩⟩⟩))), (qR (Kd.R_mono bO.out (fun _ hk => ⟨hk.1.2.2.2.2, ⟨hk.2, ⟨hk.1.2.1, ⟨hk.1.2.2.1, ⟨hk.1.2.2.2.1, hk.1.1⟩⟩⟩⟩⟩))), (qR (Kd.R_mono aI.out (fun _ hk => ⟨hk.1.2.2.2.1, ⟨hk.2, ⟨hk.1.2.2.2.2, ⟨hk.1.2.1, ⟨hk.1.2.2.1, hk.1.1⟩⟩⟩⟩⟩))), (qR (Kd.R_mono aE.out (fun _ hk => ⟨hk.1.2.2.2.1, ⟨hk.2, ⟨hk.1.2.2.2.2, ⟨hk.1.2.1, ⟨hk.1.2.2.1, hk.1.1⟩⟩⟩⟩⟩))), (qR (Kd.R_mono aG.out (fun _ hk => ⟨hk.1.2.2.2.1, ⟨hk.2, ⟨hk.1.2.2.2.2, ⟨hk.1.2.1, ⟨hk.1.2.2.1, hk.1.1⟩⟩⟩⟩⟩))), (qR (Kd.R_mono aH.out (fun _ hk => ⟨hk.1.2.2.2.1, ⟨hk.2, ⟨hk.1.2.2.2.2, ⟨hk.1.1, ⟨hk.1.2.1, hk.1.2.2.1⟩⟩⟩⟩⟩))), (qB aC.out), (qB aD.out), (qB aA.out), (qW HB.out)⟩)
      ·skip
       refine Kd.R_lit_step (Kd.int .i64) _ 3 ?hg (N := 67) ?hd (xs := ([wrap64 ((wrap64 (t123 + aX)) + aY)] : List Int)) (inner := [.int .i64 (wrap64 ((wrap64 (t123 + aX)) + aY))]) (ok := fun _ => True) (okp := fun _ => True) ?hr ?hp (fun _ hk => hk) trivial (Below.refl _ _) (Nat.le_refl _) (by simp) ?_; (case hd => rfl); (case hg => rfl); (case hr => first | (go_simp; done) | (go_simp; rfl)); (case hp => exact (Reps.one (show Kd.M (Kd.int .i64) _ _ _ (wrap64 ((wrap64 (t123 + aX)) + aY)) [.int .i64 (wrap64 ((wrap64 (t123 + aX)) + aY))] from rfl) (Reps.none _ _)))
       intro v144 w46 bS hb hg_ hnew_
       clear hg_ hnew_
       (first | rw [← dR.out] at bS | (simp only [Int.reduceToNat] at bS; rw [← dR.out] at bS))
       have n0_ := Aside0.mk (Kd.R_elder' (qR aH.out) (Kd.R_base bS) hb)
       have n1_ := Aside0.mk (Kd.R_elder' (qR aI.out) (Kd.R_base bS) hb)
       have n2_ := Aside0.mk (Kd.R_elder' (qR aE.out) (Kd.R_base bS) hb)
       have n3_ := Aside0.mk (Kd.R_elder' (qR aJ.out) (Kd.R_base bS) hb)
       have n4_ := Aside0.mk (Kd.R_elder' (qR aG.out) (Kd.R_base bS) hb)
       have n5_ := Aside0.mk (Kd.R_lower (Kd.R_new' (Kd.R_new' (Kd.R_new' (Kd.R_new' (Kd.R_new' bS (Kd.R_lt (qR aH.out))) (Kd.R_lt (qR aI.out))) (Kd.R_lt (qR aE.out))) (Kd.R_lt (qR aJ.out))) (Kd.R_lt (qR aG.out))) (below_size (qW HB.out)))
       have n6_ := Aside0.mk (blk_below (qB aC.out) hb)
       have n7_ := Aside0.mk (blk_below (qB aD.out) hb)
       have n8_ := Aside0.mk (blk_below (qB aA.out) hb)
       have n9_ := Aside0.mk (below_step (qW HB.out) hb)
       clear aH aI aE aJ aG aC aD aA HB
       have aH := n0_
       have aI := n1_
       have aE := n2_
       have aJ := n3_
       have aG := n4_
       have bO := n5_
       have aC := n6_
       have aD := n7_
       have aA := n8_
       have HB := n9_
       clear n0_ n1_ n2_ n3_ n4_ n5_ n6_ n7_ n8_ n9_ hb bS
       refine hK.out _ _ ⟨(blk_cell aA.out 0).trans rfl, (blk_cell aA.out 1).trans rfl, (blk_cell aA.out 2).trans rfl, (blk_cell aA.out 3).trans rfl, (blk_cell aA.out 4).trans rfl, (blk_cell aC.out 0).trans rfl, (blk_cell aC.out 1).trans rfl, (blk_cell aC.out 2).trans rfl, (blk_cell aC.out 3).trans rfl, (blk_cell aC.out 4).trans rfl⟩ (fun hHeld => ?_); clear hK K
       refine norm_ (a' := ?_) ?_ ?_; rotate_left
       ·show Act.put _ (some 67) _ = _
        simp only [Act.put, List.setIfInBounds_toArray, List.set_cons_zero, List.set_cons_succ, i64_w, i32_w]
        rfl
       refine one_ (i := 3) (N := some 56) #[true, true, true, true, false, true, true, true, true, true, true, true, true, true, true, false, false, false, false, false] rfl rfl (one_of HT_.out (by kernel_rfl)) (by decide) (fun K hK => ?_)
       refine Kd.R_lit_step (Kd.int .i64) _ 3 ?hg (N := 56) ?hd (xs := ([t123] : List Int)) (inner := [.int .i64 t123]) (ok := fun _ => True) (okp := fun _ => True) ?hr ?hp (fun _ hk => hk) trivial (Below.refl _ _) (Nat.le_refl _) (by simp) ?_; (case hd => rfl); (case hg => rfl); (case hr => first | (go_simp; done) | (go_simp; rfl)); (case hp => exact (Reps.one (show Kd.M (Kd.int .i64) _ _ _ t123 [.int .i64 t123] from rfl) (Reps.none _ _)))
       intro v138 w48 bQ hb hg_ hnew_
       clear hg_ hnew_
       (first | rw [← eT.out] at bQ | (simp only [Int.reduceToNat] at bQ; rw [← eT.out] at bQ))
       have n0_ := Aside0.mk (Kd.R_elder' (qR aH.out) (Kd.R_base bQ) hb)
       have n1_ := Aside0.mk (Kd.R_elder' (qR aI.out) (Kd.R_base bQ) hb)
       have n2_ := Aside0.mk (Kd.R_elder' (qR aE.out) (Kd.R_base bQ) hb)
       have n3_ := Aside0.mk (Kd.R_elder' (qR aJ.out) (Kd.R_base bQ) hb)
       have n4_ := Aside0.mk (Kd.R_elder' (qR aG.out) (Kd.R_base bQ) hb)
       have n5_ := Aside0.mk (Kd.R_elder' (qR bO.out) (Kd.R_base bQ) hb)
       have n6_ := Aside0.mk (Kd.R_lower (Kd.R_new' (Kd.R_new' (Kd.R_new' (Kd.R_new' (Kd.R_new' (Kd.R_new' bQ (Kd.R_lt (qR aH.out))) (Kd.R_lt (qR aI.out))) (Kd.R_lt (qR aE.out))) (Kd.R_lt (qR aJ.out))) (Kd.R_lt (qR aG.out))) (Kd.R_lt (qR bO.out))) (below_size (qW HB.out)))
       have n7_ := Aside0.mk (blk_below (qB aC.out) hb)
       have n8_ := Aside0.mk (blk_below (qB aD.out) hb)
       have n9_ := Aside0.mk (blk_below (qB aA.out) hb)
       have bD := Aside0.mk (below_step (qW HB.out) hb)
       clear aH aI aE aJ aG bO aC aD aA HB
       have aH := n0_
       have aI := n1_
       have aE := n2_
       have aJ := n3_
       have aG := n4_
       have bO := n5_
       have bM := n6_
       have aC := n7_
       have aD := n8_
       have aA := n9_
       have HB := bD
       clear n0_ n1_ n2_ n3_ n4_ n5_ n6_ n7_ n8_ n9_ bD hb bQ
       obtain ⟨cC, cD, eM⟩ := Kd.R_slice bM.out
       (first | subst eM | (injection eM with f1_ f2_ f3_; have f4_ := f1_.symm; have f5_ := f3_.symm; clear f1_ f2_ f3_; subst f4_; subst f5_))
       refine hK.out _ _ ⟨(blk_cell aA.out 0).trans rfl, (blk_cell aA.out 1).trans rfl, (blk_cell aA.out 2).trans rfl, (blk_cell aA.out 3).trans rfl, (blk_cell aA.out 4).trans rfl, (blk_cell aC.out 0).trans rfl, (blk_cell aC.out 1).trans rfl, (blk_cell aC.out 2).trans rfl, (blk_cell aC.out 3).trans rfl, (blk_cell aC.out 4).trans rfl⟩ (fun hHeld => ?_); clear hK K
       refine norm_ (a' := ?_) ?_ ?_; rotate_left
       ·show Act.put _ (some 56) _ = _
        simp only [Act.put, List.setIfInBounds_toArray, List.set_cons_zero, List.set_cons_succ, i64_w, i32_w]
        rfl
       refine one_ (i := 4) (N := some 57) #[true, true, true, true, true, true, true, true, true, true, true, true, true, true, true, false, false, false, false, false] rfl rfl (one_of HT_.out (by kernel_rfl)) (by decide) (fun K hK => ?_)
       refine Kd.R_append_rows_step (Kd.int .i64) (w0 := w) w.heap.size (by rfl) (.tmp 54) (.tmp 56) 22 3 (.int .i64 0) 8 rfl Try.underlying22 info3 rfl (by decide) (by omega) (.slice cQ bC.length cR) bC y137 _ _ _ (fun k_ => some k_ ≠ (.slice (some ad122) t118.length aK : Value).ownBlock ∧ some k_ ≠ (aQ : Value).ownBlock ∧ some k_ ≠ (aT : Value).ownBlock ∧ some k_ ≠ (.slice bG aN.length bH : Value).ownBlock ∧ some k_ ≠ (v144 : Value).ownBlock ∧ some k_ ≠ (.slice cC y137.length cD : Value).ownBlock) (fun _ => False) rfl rfl ?aO ?aR (fun _ _ h => h) (fun _ h => h.elim) ?aF ?aB ?aS ?aL ?_
       (case aR => repeat (first | exact (Kd.R_reads' bM.out).2.2 | (with_reducible refine Kd.C_alloc ?_ _) | (with_reducible refine Kd.C_drewN ?_ _) | (with_reducible refine Kd.C_drew ?_)))
       (case aB => exact (qW HB.out))
       (case aF => exact (fun k_ hk => ⟨Kd.fresh' (Kd.R_lt (qR aH.out)) k_ hk, Kd.fresh' (Kd.R_lt (qR aI.out)) k_ hk, Kd.fresh' (Kd.R_lt (qR aE.out)) k_ hk, Kd.fresh' (Kd.R_lt (qR aG.out)) k_ hk, Kd.fresh' (Kd.R_lt (qR bO.out)) k_ hk, Kd.fresh' (Kd.R_lt (qR bM.out)) k_ hk⟩))
       (case aO => exact (qR (Kd.R_mono aJ.out (fun _ hk => ⟨hk.1.1.1, ⟨hk.1.1.2.1, ⟨hk.1.1.2.2.1, ⟨hk.1.1.2.2.2, ⟨hk.1.2, hk.2⟩⟩⟩⟩⟩))))
       (case aS => exact (below_size (qW HB.out)))
       (case aL => have := eZ.out; omega)
       intro v141 w50 ho hb hg hat
       rw [← fA.out] at ho
       have n0_ := Aside0.mk (Kd.R_after (ok := (fun k_ => some k_ ≠ (aQ : Value).ownBlock ∧ some k_ ≠ (aT : Value).ownBlock ∧ some k_ ≠ (.slice bG aN.length bH : Value).ownBlock ∧ some k_ ≠ (v144 : Value).ownBlock ∧ some k_ ≠ (.slice cC y137.length cD : Value).ownBlock)) (qR (Kd.R_mono aH.out (fun _ hk => ⟨⟨hk.1.1.1, ⟨hk.1.1.2.1, ⟨hk.1.1.2.2.2, ⟨hk.1.2, hk.2⟩⟩⟩⟩, hk.1.1.2.2.1⟩))) hg hat)
       have n1_ := Aside0.mk (Kd.R_after (ok := (fun k_ => some k_ ≠ (.slice (some ad122) t118.length aK : Value).ownBlock ∧ some k_ ≠ (aT : Value).ownBlock ∧ some k_ ≠ (.slice bG aN.length bH : Value).ownBlock ∧ some k_ ≠ (v144 : Value).ownBlock ∧ some k_ ≠ (.slice cC y137.length cD : Value).ownBlock)) (qR (Kd.R_mono aI.out (fun _ hk => ⟨⟨hk.1.1.1, ⟨hk.1.1.2.1, ⟨hk.1.1.2.2.2, ⟨hk.1.2, hk.2⟩⟩⟩⟩, hk.1.1.2.2.1⟩))) hg hat)
       have n2_ := Aside0.mk (Kd.R_after (ok := (fun k_ => some k_ ≠ (.slice (some ad122) t118.length aK : Value).ownBlock ∧ some k_ ≠ (aQ : Value).ownBlock ∧ some k_ ≠ (.slice bG aN.length bH : Value).ownBlock ∧ some k_ ≠ (v144 : Value).ownBlock ∧ some k_ ≠ (.slice cC y137.length cD : Value).ownBlock)) (qR (Kd.R_mono aE.out (fun _ hk => ⟨⟨hk.1.1.1, ⟨hk.1.1.2.1, ⟨hk.1.1.2.2.2, ⟨hk.1.2, hk.2⟩⟩⟩⟩, hk.1.1.2.2.1⟩))) hg hat)
       have n3_ := Aside0.mk (Kd.R_after (ok := (fun k_ => some k_ ≠ (.slice (some ad122) t118.length aK : Value).ownBlock ∧ some k_ ≠ (aQ : Value).ownBlock ∧ some k_ ≠ (aT : Value).ownBlock ∧ some k_ ≠ (v144 : Value).ownBlock ∧ some k_ ≠ (.slice cC y137.length cD : Value).ownBlock)) (qR (Kd.R_mono aG.out (fun _ hk => ⟨⟨hk.1.1.1, ⟨hk.1.1.2.1, ⟨hk.1.1.2.2.1, ⟨hk.1.2, hk.2⟩⟩⟩⟩, hk.1.1.2.2.2⟩))) hg hat)
       have n4_ := Aside0.mk (blk_grown (qB aC.out) hg (Kd.R_ne aJ.out aC.out (by decide)))
       have n5_ := Aside0.mk (blk_grown (qB aD.out) hg (Kd.R_ne aJ.out aD.out (by decide)))
       have n6_ := Aside0.mk (blk_grown (qB aA.out) hg (Kd.R_ne aJ.out aA.out (by decide)))
       have n7_ := Aside0.mk (Kd.R_after (ok := (fun k_ => some k_ ≠ (.slice (some ad122) t118.length aK : Value).ownBlock ∧ some k_ ≠ (aQ : Value).ownBlock ∧ some k_ ≠ (aT : Value).ownBlock ∧ some k_ ≠ (.slice bG aN.length bH : Value).ownBlock ∧ some k_ ≠ (.slice cC y137.length cD : Value).ownBlock)) (qR (Kd.R_mono bO.out (fun _ hk => ⟨⟨hk.1.1.1.1.1.2, ⟨hk.1.1.1.1.2, ⟨hk.1.1.1.2, ⟨hk.1.2, hk.2⟩⟩⟩⟩, hk.1.1.2⟩))) hg hat)
       have n8_ := Aside0.mk (Kd.R_after (ok := (fun k_ => some k_ ≠ (.slice (some ad122) t118.length aK : Value).ownBlock ∧ some k_ ≠ (aQ : Value).ownBlock ∧ some k_ ≠ (aT : Value).ownBlock ∧ some k_ ≠ (.slice bG aN.length bH : Value).ownBlock ∧ some k_ ≠ (v144 : Value).ownBlock)) (qR (Kd.R_mono bM.out (fun _ hk => ⟨⟨hk.1.1.1.1.1.2, ⟨hk.1.1.1.1.2, ⟨hk.1.1.1.2, ⟨hk.1.2, hk.2⟩⟩⟩⟩, hk.1.1.2⟩))) hg hat)
       have n9_ := Aside0.mk (hb)
       have bD := Aside0.mk (ho)
       clear aH aI aE aG aC aD aA bO bM HB aJ
       have aH := n0_
       have aI := n1_
       have aE := n2_
       have aG := n3_
       have aC := n4_
       have aD := n5_
       have aA := n6_
       have bO := n7_
       have bM := n8_
       have HB := n9_
       have bZ := bD
       clear n0_ n1_ n2_ n3_ n4_ n5_ n6_ n7_ n8_ n9_ bD ho hb hg hat
       refine hK.out _ _ ⟨(blk_cell aA.out 0).trans rfl, (blk_cell aA.out 1).trans rfl, (blk_cell aA.out 2).trans rfl, (blk_cell aA.out 3).trans rfl, (blk_cell aA.out 4).trans rfl, (blk_cell aC.out 0).trans rfl, (blk_cell aC.out 1).trans rfl, (blk_cell aC.out 2).trans rfl, (blk_cell aC.out 3).trans rfl, (blk_cell aC.out 4).trans rfl⟩ (fun hHeld => ?_); clear hK K
       refine norm_ (a' := ?_) ?_ ?_; rotate_left
       ·show Act.put _ (some 57) _ = _
        simp only [Act.put, List.setIfInBounds_toArray, List.set_cons_zero, List.set_cons_succ, i64_w, i32_w]
        rfl
       refine pS (i := 16) (N := some 69) #[true, true, true, true, true, true, true, true, true, true, true, true, true, true, true, false, true, false, false, false] rfl rfl HT_.out ?_
       exact norm_ (by simp only [putAll, Act.put, List.setIfInBounds_toArray, List.set_cons_zero, List.set_cons_succ]) (hCont (.slice cC y137.length cD, v141, v144) _ ⟨hHeld, (qR (Kd.R_mono bM.out (fun _ hk => ⟨hk.2, ⟨hk.1.2.2.2.2, ⟨hk.1.2.1, ⟨hk.1.2.2.1, ⟨hk.1.2.2.2.1, hk.1.1⟩⟩⟩⟩⟩))), (qR (Kd.R_mono bZ.out (fun _ hk => ⟨hk.2.2.2.2.2, ⟨hk.2.2.2.2.1, ⟨hk.2.1, ⟨hk.2.2.1, ⟨hk.2.2.2.1, hk.1⟩⟩⟩⟩⟩))), (qR (Kd.R_mono bO.out (fun _ hk => ⟨hk.1.2.2.2.2, ⟨hk.2, ⟨hk.1.2.1, ⟨hk.1.2.2.1, ⟨hk.1.2.2.2.1, hk.1.1⟩⟩⟩⟩⟩))), (qR (Kd.R_mono aI.out (fun _ hk => ⟨hk.1.2.2.2.2, ⟨hk.2, ⟨hk.1.2.2.2.1, ⟨hk.1.2.1, ⟨hk.1.2.2.1, hk.1.1⟩⟩⟩⟩⟩))), (qR (Kd.R_mono aE.out (fun _ hk => ⟨hk.1.2.2.2.2, ⟨hk.2, ⟨hk.1.2.2.2.1, ⟨hk.1.2.1, ⟨hk.1.2.2.1, hk.1.1⟩⟩⟩⟩⟩))), (qR (Kd.R_mono aG.out (fun _ hk => ⟨hk.1.2.2.2.2, ⟨hk.2, ⟨hk.1.2.2.2.1, ⟨hk.1.2.1, ⟨hk.1.2.2.1, hk.1.1⟩⟩⟩⟩⟩))), (qR (Kd.R_mono aH.out (fun _ hk => ⟨hk.1.2.2.2.2, ⟨hk.2, ⟨hk.1.2.2.2.1, ⟨hk.1.1, ⟨hk.1.2.1, hk.1.2.2.1⟩⟩⟩⟩⟩))), (qB aC.out), (qB aD.out), (qB aA.out), (qW HB.out)⟩)
     rintro ⟨v138, v141, v144⟩ w52 ⟨hS_, h0_, h1_, h2_, h3_, h4_, h5_, h6_, h7_, h8_, h9_, h10_⟩
     have n0_ : Aside0 (Kd.R (Kd.int .i64) 3 w52 w.heap.size (fun k_ => some k_ ≠ (v141 : Value).ownBlock ∧ some k_ ≠ (v144 : Value).ownBlock ∧ some k_ ≠ (aQ : Value).ownBlock ∧ some k_ ≠ (aT : Value).ownBlock ∧ some k_ ≠ (.slice bG aN.length bH : Value).ownBlock ∧ some k_ ≠ (.slice (some ad122) t118.length aK : Value).ownBlock) v138 y137) := ⟨h0_⟩
     have n1_ : Aside0 (Kd.R (Kd.int .i64) 3 w52 w.heap.size (fun k_ => some k_ ≠ (v138 : Value).ownBlock ∧ some k_ ≠ (v144 : Value).ownBlock ∧ some k_ ≠ (aQ : Value).ownBlock ∧ some k_ ≠ (aT : Value).ownBlock ∧ some k_ ≠ (.slice bG aN.length bH : Value).ownBlock ∧ some k_ ≠ (.slice (some ad122) t118.length aK : Value).ownBlock) v141 y140) := ⟨h1_⟩
     have n2_ : Aside0 (Kd.R (Kd.int .i64) 3 w52 w.heap.size (fun k_ => some k_ ≠ (v138 : Value).ownBlock ∧ some k_ ≠ (v141 : Value).ownBlock ∧ some k_ ≠ (aQ : Value).ownBlock ∧ some k_ ≠ (aT : Value).ownBlock ∧ some k_ ≠ (.slice bG aN.length bH : Value).ownBlock ∧ some k_ ≠ (.slice (some ad122) t118.length aK : Value).ownBlock) v144 y143) := ⟨h2_⟩
     have n3_ : Aside0 (Kd.R (Kd.int .i64) 3 w52 w.heap.size (fun k_ => some k_ ≠ (v138 : Value).ownBlock ∧ some k_ ≠ (v141 : Value).ownBlock ∧ some k_ ≠ (v144 : Value).ownBlock ∧ some k_ ≠ (aT : Value).ownBlock ∧ some k_ ≠ (.slice bG aN.length bH : Value).ownBlock ∧ some k_ ≠ (.slice (some ad122) t118.length aK : Value).ownBlock) aQ cM) := ⟨h3_⟩
     have n4_ : Aside0 (Kd.R (Kd.int .i64) 3 w52 w.heap.size (fun k_ => some k_ ≠ (v138 : Value).ownBlock ∧ some k_ ≠ (v141 : Value).ownBlock ∧ some k_ ≠ (v144 : Value).ownBlock ∧ some k_ ≠ (aQ : Value).ownBlock ∧ some k_ ≠ (.slice bG aN.length bH : Value).ownBlock ∧ some k_ ≠ (.slice (some ad122) t118.length aK : Value).ownBlock) aT cN) := ⟨h4_⟩
     have n5_ : Aside0 (Kd.R (Kd.int .i64) 3 w52 w.heap.size (fun k_ => some k_ ≠ (v138 : Value).ownBlock ∧ some k_ ≠ (v141 : Value).ownBlock ∧ some k_ ≠ (v144 : Value).ownBlock ∧ some k_ ≠ (aQ : Value).ownBlock ∧ some k_ ≠ (aT : Value).ownBlock ∧ some k_ ≠ (.slice (some ad122) t118.length aK : Value).ownBlock) (.slice bG aN.length bH) aN) := ⟨h5_⟩
     have n6_ : Aside0 (Kd.R (Kd.int .i64) 3 w52 w.heap.size (fun k_ => some k_ ≠ (v138 : Value).ownBlock ∧ some k_ ≠ (v141 : Value).ownBlock ∧ some k_ ≠ (v144 : Value).ownBlock ∧ some k_ ≠ (aQ : Value).ownBlock ∧ some k_ ≠ (aT : Value).ownBlock ∧ some k_ ≠ (.slice bG aN.length bH : Value).ownBlock) (.slice (some ad122) t118.length aK) t118) := ⟨h6_⟩
     have n7_ : Aside0 (w52.heap[bB]? = some (.cells #[.slice bU bI.length bV, .slice bW bJ.length bX, .int .i64 aW, .int .i64 aX, .int .i64 aY] 24 (0, 0))) := ⟨h7_⟩
     have n8_ : Aside0 (w52.heap[bA]? = some (.cells #[.slice none 0 0, .slice none 0 0, .slice none 0 0, .slice none 0 0, .int .i64 bT] 28 (0, 0))) := ⟨h8_⟩
     have n9_ : Aside0 (w52.heap[aM]? = some (.cells #[aQ, aT, .slice cQ bC.length cR, .slice bG aN.length bH, .int .i64 0] 28 (0, 0))) := ⟨h9_⟩
     have bD : Aside0 (Below w.heap.size w w52) := ⟨h10_⟩
     clear aH aI aE aJ aG aC aD aA HB h0_ h1_ h2_ h3_ h4_ h5_ h6_ h7_ h8_ h9_ h10_
     have bM := n0_
     have bZ := n1_
     have bO := n2_
     have aI := n3_
     have aE := n4_
     have aG := n5_
     have aH := n6_
     have aC := n7_
     have aD := n8_
     have aA := n9_
     have HB := bD
     clear n0_ n1_ n2_ n3_ n4_ n5_ n6_ n7_ n8_ n9_ bD
     have hHeld : w52.cell? ⟨aM, 0, none⟩ = some (aQ) ∧ w52.cell? ⟨aM, 1, none⟩ = some (aT) ∧ w52.cell? ⟨aM, 2, none⟩ = some (.slice cQ bC.length cR) ∧ w52.cell? ⟨aM, 3, none⟩ = some (.slice bG aN.length bH) ∧ w52.cell? ⟨aM, 4, none⟩ = some (.int .i64 0) ∧ w52.cell? ⟨bB, 0, none⟩ = some (.slice bU bI.length bV) ∧ w52.cell? ⟨bB, 1, none⟩ = some (.slice bW bJ.length bX) ∧ w52.cell? ⟨bB, 2, none⟩ = some (.int .i64 aW) ∧ w52.cell? ⟨bB, 3, none⟩ = some (.int .i64 aX) ∧ w52.cell? ⟨bB, 4, none⟩ = some (.int .i64 aY) := hS_
     obtain ⟨dU, dV, fN⟩ := Kd.R_slice bO.out
     (first | subst fN | (injection fN with f1_ f2_ f3_; have f4_ := f1_.symm; have f5_ := f3_.symm; clear f1_ f2_ f3_; subst f4_; subst f5_))
     refine norm_ (a' := ?_) ?_ ?_; rotate_left
     ·simp only [putAll, Act.put, List.setIfInBounds_toArray, List.set_cons_zero, List.set_cons_succ]
      rfl
     refine one_ (i := 15) (N := some 68) #[true, true, true, true, true, true, true, true, true, true, true, true, true, true, true, true, true, false, false, false] rfl rfl (one_of HT_.out (by kernel_rfl)) (by decide) (fun K hK => ?_)
     refine Kd.R_append_rows_step (Kd.int .i64) (w0 := w) w.heap.size (by rfl) (.tmp 59) (.tmp 67) 22 3 (.int .i64 0) 8 rfl Try.underlying22 info3 rfl (by decide) (by omega) (.slice bG aN.length bH) aN y143 _ _ _ (fun k_ => some k_ ≠ (.slice (some ad122) t118.length aK : Value).ownBlock ∧ some k_ ≠ (aQ : Value).ownBlock ∧ some k_ ≠ (aT : Value).ownBlock ∧ some k_ ≠ (v138 : Value).ownBlock ∧ some k_ ≠ (v141 : Value).ownBlock ∧ some k_ ≠ (.slice dU y143.length dV : Value).ownBlock) (fun _ => False) rfl rfl ?aO ?aR (fun _ _ h => h) (fun _ h => h.elim) ?aF ?aB ?aS ?aL ?_
     (case aR => repeat (first | exact (Kd.R_reads' bO.out).2.2 | (with_reducible refine Kd.C_alloc ?_ _) | (with_reducible refine Kd.C_drewN ?_ _) | (with_reducible refine Kd.C_drew ?_)))
     (case aB => exact (qW HB.out))
     (case aF => exact (fun k_ hk => ⟨Kd.fresh' (Kd.R_lt (qR aH.out)) k_ hk, Kd.fresh' (Kd.R_lt (qR aI.out)) k_ hk, Kd.fresh' (Kd.R_lt (qR aE.out)) k_ hk, Kd.fresh' (Kd.R_lt (qR bM.out)) k_ hk, Kd.fresh' (Kd.R_lt (qR bZ.out)) k_ hk, Kd.fresh' (Kd.R_lt (qR bO.out)) k_ hk⟩))
     (case aO => exact (qR (Kd.R_mono aG.out (fun _ hk => ⟨hk.2.2.2.2.2, ⟨hk.2.2.2.1, ⟨hk.2.2.2.2.1, ⟨hk.1, ⟨hk.2.1, hk.2.2.1⟩⟩⟩⟩⟩))))
     (case aS => exact (below_size (qW HB.out)))
     (case aL => have := gQ.out; omega)
     intro v147 w53 ho hb hg hat
     rw [← gR.out] at ho
     have n0_ := Aside0.mk (Kd.R_after (ok := (fun k_ => some k_ ≠ (aQ : Value).ownBlock ∧ some k_ ≠ (aT : Value).ownBlock ∧ some k_ ≠ (v138 : Value).ownBlock ∧ some k_ ≠ (v141 : Value).ownBlock ∧ some k_ ≠ (.slice dU y143.length dV : Value).ownBlock)) (qR (Kd.R_mono aH.out (fun _ hk => ⟨⟨hk.2.2.2.1, ⟨hk.2.2.2.2.1, ⟨hk.1, ⟨hk.2.1, hk.2.2.1⟩⟩⟩⟩, hk.2.2.2.2.2⟩))) hg hat)
     have n1_ := Aside0.mk (Kd.R_after (ok := (fun k_ => some k_ ≠ (.slice (some ad122) t118.length aK : Value).ownBlock ∧ some k_ ≠ (aT : Value).ownBlock ∧ some k_ ≠ (v138 : Value).ownBlock ∧ some k_ ≠ (v141 : Value).ownBlock ∧ some k_ ≠ (.slice dU y143.length dV : Value).ownBlock)) (qR (Kd.R_mono aI.out (fun _ hk => ⟨⟨hk.2.2.2.2.2, ⟨hk.2.2.2.1, ⟨hk.1, ⟨hk.2.1, hk.2.2.1⟩⟩⟩⟩, hk.2.2.2.2.1⟩))) hg hat)
     have n2_ := Aside0.mk (Kd.R_after (ok := (fun k_ => some k_ ≠ (.slice (some ad122) t118.length aK : Value).ownBlock ∧ some k_ ≠ (aQ : Value).ownBlock ∧ some k_ ≠ (v138 : Value).ownBlock ∧ some k_ ≠ (v141 : Value).ownBlock ∧ some k_ ≠ (.slice dU y143.length dV : Value).ownBlock)) (qR (Kd.R_mono aE.out (fun _ hk => ⟨⟨hk.2.2.2.2.2, ⟨hk.2.2.2.1, ⟨hk.1, ⟨hk.2.1, hk.2.2.1⟩⟩⟩⟩, hk.2.2.2.2.1⟩))) hg hat)
     have n3_ := Aside0.mk (blk_grown (qB aC.out) hg (Kd.R_ne aG.out aC.out (by decide)))
     have n4_ := Aside0.mk (blk_grown (qB aD.out) hg (Kd.R_ne aG.out aD.out (by decide)))
     have n5_ := Aside0.mk (blk_grown (qB aA.out) hg (Kd.R_ne aG.out aA.out (by decide)))
     have n6_ := Aside0.mk (Kd.R_after (ok := (fun k_ => some k_ ≠ (.slice (some ad122) t118.length aK : Value).ownBlock ∧ some k_ ≠ (aQ : Value).ownBlock ∧ some k_ ≠ (aT : Value).ownBlock ∧ some k_ ≠ (v141 : Value).ownBlock ∧ some k_ ≠ (.slice dU y143.length dV : Value).ownBlock)) (qR (Kd.R_mono bM.out (fun _ hk => ⟨⟨hk.2.2.2.2.2, ⟨hk.2.2.1, ⟨hk.2.2.2.1, ⟨hk.1, hk.2.1⟩⟩⟩⟩, hk.2.2.2.2.1⟩))) hg hat)
     have n7_ := Aside0.mk (Kd.R_after (ok := (fun k_ => some k_ ≠ (.slice (some ad122) t118.length aK : Value).ownBlock ∧ some k_ ≠ (aQ : Value).ownBlock ∧ some k_ ≠ (aT : Value).ownBlock ∧ some k_ ≠ (v138 : Value).ownBlock ∧ some k_ ≠ (.slice dU y143.length dV : Value).ownBlock)) (qR (Kd.R_mono bZ.out (fun _ hk => ⟨⟨hk.2.2.2.2.2, ⟨hk.2.2.1, ⟨hk.2.2.2.1, ⟨hk.1, hk.2.1⟩⟩⟩⟩, hk.2.2.2.2.1⟩))) hg hat)
     have n8_ := Aside0.mk (Kd.R_after (ok := (fun k_ => some k_ ≠ (.slice (some ad122) t118.length aK : Value).ownBlock ∧ some k_ ≠ (aQ : Value).ownBlock ∧ some k_ ≠ (aT : Value).ownBlock ∧ some k_ ≠ (v138 : Value).ownBlock ∧ some k_ ≠ (v141 : Value).ownBlock)) (qR (Kd.R_mono bO.out (fun _ hk => ⟨⟨hk.2.2.2.2.2, ⟨hk.2.2.1, ⟨hk.2.2.2.1, ⟨hk.1, hk.2.1⟩⟩⟩⟩, hk.2.2.2.2.1⟩))) hg hat)
     have n9_ := Aside0.mk (hb)
     have bD := Aside0.mk (ho)
     clear aH aI aE aC aD aA bM bZ bO HB aG
     have aH := n0_
     have aI := n1_
     have aE := n2_
     have aC := n3_
     have aD := n4_
     have aA := n5_
     have bM := n6_
     have bZ := n7_
     have bO := n8_
     have HB := n9_
     have fO := bD
     clear n0_ n1_ n2_ n3_ n4_ n5_ n6_ n7_ n8_ n9_ bD ho hb hg hat
     obtain ⟨dA, dB, fP⟩ := Kd.R_slice bZ.out
     (first | subst fP | (injection fP with f1_ f2_ f3_; have f4_ := f1_.symm; have f5_ := f3_.symm; clear f1_ f2_ f3_; subst f4_; subst f5_))
     obtain ⟨dW, dX, fQ⟩ := Kd.R_slice fO.out
     (first | subst fQ | (injection fQ with f1_ f2_ f3_; have f4_ := f1_.symm; have f5_ := f3_.symm; clear f1_ f2_ f3_; subst f4_; subst f5_))
     refine hK.out _ _ ⟨(blk_cell aA.out 0).trans rfl, (blk_cell aA.out 1).trans rfl, (blk_cell aA.out 2).trans rfl, (blk_cell aA.out 3).trans rfl, (blk_cell aA.out 4).trans rfl, (blk_cell aC.out 0).trans rfl, (blk_cell aC.out 1).trans rfl, (blk_cell aC.out 2).trans rfl, (blk_cell aC.out 3).trans rfl, (blk_cell aC.out 4).trans rfl⟩ (fun hHeld => ?_); clear hK K
     refine norm_ (a' := ?_) ?_ ?_; rotate_left
     ·show Act.put _ (some 68) _ = _
      simp only [Act.put, List.setIfInBounds_toArray, List.set_cons_zero, List.set_cons_succ, i64_w, i32_w]
      rfl
     refine last_ (i := 17) (N := none) #[true, true, true, true, true, true, true, true, true, true, true, true, true, true, true, true, true, true, false, false] rfl rfl (one_of HT_.out (by kernel_rfl)) (by decide) (fun K hK => ?_)
     have hs56 : w53.cell? ⟨aM, 2, none⟩ = some (.slice cQ bC.length cR) := (blk_cell aA.out 2).trans rfl
     have hfs56 := blk_frozen aA.out 2
     have hns56_0 := cE.out
     have hns56_1 := cF.out
     have hms56_0 := cU.out
     have hms56_1 := dH.out
     refine skip_ (w1 := ?_) (by rfl) rfl ?_ ?_; rotate_left
     ·go_simp
      rfl
     refine hK.out _ _ ?_; clear hK K
     refine pS (i := 18) (N := some 70) #[true, true, true, true, true, true, true, true, true, true, true, true, true, true, true, true, true, true, true, false] rfl rfl HT_.out ?_
     refine last_ (i := 19) (N := none) #[true, true, true, true, true, true, true, true, true, true, true, true, true, true, true, true, true, true, true, true] rfl rfl (one_of HT_.out (by kernel_rfl)) (by decide) (fun K hK => ?_)
     have hs58 : w53.cell? ⟨aM, 3, none⟩ = some (.slice bG aN.length bH) := (blk_cell aA.out 3).trans rfl
     have hfs58 := blk_frozen aA.out 3
     have hns58_0 := cE.out
     have hns58_1 := cF.out
     have hms58_0 := cU.out
     have hms58_1 := dH.out
     refine skip_ (w1 := ?_) (by rfl) rfl ?_ ?_; rotate_left
     ·go_simp
      rfl
     refine hK.out _ _ ?_; clear hK K
     refine done_ (done_of HT_.out (by kernel_rfl)) ?_
     try go_wp2
     go_roundg eH
     case measure => have := HK1.out; have := fL.out; omega
     case rel => exact ⟨(t123), (wrap64 (aZ + 1)), (bT), (cM), (cN), (y140), (y146), (aQ), (aT), (.slice dA y140.length dB), (.slice dW y146.length dX), (by first | rfl | (simp; done) | (simp [*]; done)), (by first | rfl | (simp; done) | (simp [*]; done)), H', ⟨by have := HK1.out; have := fL.out; omega⟩, ⟨by exact qR (Kd.R_mono (Kd.R_far (p := ⟨aM, 3, none⟩) (Kd.R_far (p := ⟨aM, 2, none⟩) (Kd.R_types aH.out aA.out (by decide)) (fun _ hk => hk.2) (.slice dA y140.length dB)) (fun _ hk => hk.2) (.slice dW y146.length dX)) (fun _ hk => ⟨hk.1.1.1, ⟨hk.1.1.2.1, ⟨hk.1.1.2.2.2.1, hk.1.2⟩⟩⟩))⟩, ⟨by exact qR (Kd.R_mono (Kd.R_far (p := ⟨aM, 3, none⟩) (Kd.R_far (p := ⟨aM, 2, none⟩) (Kd.R_types aI.out aA.out (by decide)) (fun _ hk => hk.2) (.slice dA y140.length dB)) (fun _ hk => hk.2) (.slice dW y146.length dX)) (fun _ hk => ⟨hk.1.1.1, ⟨hk.1.1.2.1, ⟨hk.1.1.2.2.2.1, hk.1.2⟩⟩⟩))⟩, ⟨by exact qR (Kd.R_mono (Kd.R_far (p := ⟨aM, 3, none⟩) (Kd.R_far (p := ⟨aM, 2, none⟩) (Kd.R_types aE.out aA.out (by decide)) (fun _ hk => hk.2) (.slice dA y140.length dB)) (fun _ hk => hk.2) (.slice dW y146.length dX)) (fun _ hk => ⟨hk.1.1.1, ⟨hk.1.1.2.1, ⟨hk.1.1.2.2.2.1, hk.1.2⟩⟩⟩))⟩, ⟨by exact qR (Kd.R_mono (Kd.R_far (p := ⟨aM, 3, none⟩) (Kd.R_far (p := ⟨aM, 2, none⟩) (Kd.R_types bZ.out aA.out (by decide)) (fun _ hk => hk.2) (.slice dA y140.length dB)) (fun _ hk => hk.2) (.slice dW y146.length dX)) (fun _ hk => ⟨hk.1.1.1, ⟨hk.1.1.2.1, ⟨hk.1.1.2.2.1, hk.1.2⟩⟩⟩))⟩, ⟨by exact qR (Kd.R_mono (Kd.R_far (p := ⟨aM, 3, none⟩) (Kd.R_far (p := ⟨aM, 2, none⟩) (Kd.R_types fO.out aA.out (by decide)) (fun _ hk => hk.2) (.slice dA y140.length dB)) (fun _ hk => hk.2) (.slice dW y146.length dX)) (fun _ hk => ⟨hk.1.1, ⟨hk.1.2.1, ⟨hk.1.2.2.1, hk.1.2.2.2.2.1⟩⟩⟩))⟩, ⟨by (with_reducible repeat (first | refine blk_drewN ?_ _ | refine blk_drew ?_ | refine blk_alloc ?_ _)); refine blk_far ?_ cE.out _; (with_reducible repeat (first | refine blk_drewN ?_ _ | refine blk_drew ?_ | refine blk_alloc ?_ _)); refine blk_far ?_ cE.out _; exact qB aC.out⟩, ⟨by (with_reducible repeat (first | refine blk_drewN ?_ _ | refine blk_drew ?_ | refine blk_alloc ?_ _)); refine blk_far ?_ cF.out _; (with_reducible repeat (first | refine blk_drewN ?_ _ | refine blk_drew ?_ | refine blk_alloc ?_ _)); refine blk_far ?_ cF.out _; exact qB aD.out⟩, ⟨by (with_reducible repeat (first | refine blk_drewN ?_ _ | refine blk_drew ?_ | refine blk_alloc ?_ _)); refine blk_put (cs := #[aQ, aT, .slice dA y140.length dB, .slice bG aN.length bH, .int .i64 0]) ?_ 3 _ rfl; (with_reducible repeat (first | refine blk_drewN ?_ _ | refine blk_drew ?_ | refine blk_alloc ?_ _)); refine blk_put (cs := #[aQ, aT, .slice cQ bC.length cR, .slice bG aN.length bH, .int .i64 0]) ?_ 2 _ rfl; exact qB aA.out⟩, ⟨by repeat (first | (with_reducible first | exact HB.out | apply below_alloc | apply pw_below_drewN | apply below_drew1 | refine below_set ?_ dY.out | refine below_set ?_ dZ.out | refine below_set ?_ eA.out) | exact HB.out)⟩⟩
end Go.Proofs.Ytcflacjidabppaa.Pr

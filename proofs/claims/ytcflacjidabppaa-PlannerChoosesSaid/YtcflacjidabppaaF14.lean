-- Written by pp.py, a program of this session, over the translation of the given program; a machine's text: Lean checks it.
import Derived.Test.YtcflacjidabppaaGShort
import Derived.Test.YtcflacjidabppaaF16
import Derived.Test.YtcflacjidabppaaF38
import Derived.Test.YtcflacjidabppaaF39
namespace Go.Proofs.Ytcflacjidabppaa.Pr
open Go.RowKit Go.Proofs.YtcflacjidabppaaW.PrintWords Go.Proofs.YtcflacjidabppaaW.PrintLast Go.Proofs.YtcflacjidabppaaW.PrintMore
attribute [local go_sem] max2_int min2_int max_two min_two max_three min_three max_four min_four   -- for this text's walks alone
set_option linter.unusedVariables false
set_option linter.unusedSimpArgs false

/-! ### standbyref56_Plan: function 14 -/
mutual
def standbyref56_Plan.l0 : Nat → Int → Int → Int → Int → List Int → List Int → Int → Int → Int → List Int → List Int → List Int → List Int → Int → Option (List Int × List Int × List Int × List Int × Int × Int)
 | 0, _, _, _, _, _, _, _, _, _, _, _, _, _, _ => none
 | k + 1, x6, x7, x8, x9, dB, dC, cE, cL, cM, cQ, cR, cS, cJ, dD => if x9 < x6 then ((standbyref56_Size.f k dB dC cE cL cM x9).bind fun t186 => ((standbyref56_finish.f k dB dC cE cL cM (mx (wrap64 ((wrap64 (x9 + 1)) * cE)) x7) t186).bind fun cN => (if cN.2 = true then ((some (([wrap64 ((wrap64 (x9 + 1)) * cE)] : List Int) : List Int)).bind fun y189 => (if cQ.length + y189.length < 17592186044416 then ((some (([mx (wrap64 ((wrap64 (x9 + 1)) * cE)) x7] : List Int) : List Int)).bind fun y195 => (if cR.length + y195.length < 17592186044416 then (standbyref56_Plan.j1 k x6 cN.1 x8 x9 (wrap64 ((wrap64 (x9 + 1)) * cE)) (wrap64 ((wrap64 (cN.1 + cL)) + cM)) dB dC cE cL cM (cQ ++ y189) (cR ++ y195) cS cJ dD) else (none))) else (none))) else (some (([] : List Int), ([] : List Int), ([] : List Int), ([] : List Int), 0, 21))))) else (if x6 > 0 then (some (cQ, cR, cS, cJ, mx dD (wrap64 ((wrap64 ((wrap64 (x7 + cL)) + cM)) - x8)), 0)) else (some (cQ, cR, cS, cJ, dD, 0)))
def standbyref56_Plan.j1 : Nat → Int → Int → Int → Int → Int → Int → List Int → List Int → Int → Int → Int → List Int → List Int → List Int → List Int → Int → Option (List Int × List Int × List Int × List Int × Int × Int)
 | 0, _, _, _, _, _, _, _, _, _, _, _, _, _, _, _, _ => none
 | k + 1, x6, x7, x8, x9, x10, x14, dB, dC, cE, cL, cM, cQ, cR, cS, cJ, dD => (some (([x7] : List Int) : List Int)).bind fun y201 => (if cS.length + y201.length < 17592186044416 then ((some (([x14] : List Int) : List Int)).bind fun y207 => (if cJ.length + y207.length < 17592186044416 then (standbyref56_Plan.j2 k x6 x7 x8 x9 x10 x14 dB dC cE cL cM cQ cR (cS ++ y201) (cJ ++ y207) dD) else (none))) else (none))
def standbyref56_Plan.j2 : Nat → Int → Int → Int → Int → Int → Int → List Int → List Int → Int → Int → Int → List Int → List Int → List Int → List Int → Int → Option (List Int × List Int × List Int × List Int × Int × Int)
 | 0, _, _, _, _, _, _, _, _, _, _, _, _, _, _, _, _ => none
 | k + 1, x6, x7, x8, x9, x10, x14, dB, dC, cE, cL, cM, cQ, cR, cS, cJ, dD => if x9 = 0 then (standbyref56_Plan.l0 k x6 x7 x10 (wrap64 (x9 + 1)) dB dC cE cL cM cQ cR cS cJ (mx dD (wrap64 ((wrap64 (x14 - 1)) - x8)))) else (if 0 ≤ (wrap64 (x9 - 1)) then (if (wrap64 (x9 - 1)) < (cJ.length : Int) then (if x14 > (rd cJ (wrap64 (x9 - 1))) then (standbyref56_Plan.l0 k x6 x7 x10 (wrap64 (x9 + 1)) dB dC cE cL cM cQ cR cS cJ (mx dD (wrap64 ((wrap64 (x14 - 1)) - x8)))) else (standbyref56_Plan.l0 k x6 x7 x10 (wrap64 (x9 + 1)) dB dC cE cL cM cQ cR cS cJ dD)) else (none)) else (none))
end
def standbyref56_Plan.f (k : Nat) (aP : List Int) (aZ : List Int) (aE : Int) (aK : Int) (aM : Int) : Option (List Int × List Int × List Int × List Int × Int × Int) := (standbyref56_Check.f k aP aZ aE aK aM).bind fun t184 => (if t184 = 0 then (if aE = 0 then (none) else (standbyref56_Plan.l0 k (wrap64 (Int.tdiv (wrap64 ((wrap64 ((aP.length : Int) + aE)) - 1)) aE)) 0 0 0 aP aZ aE aK aM ([] : List Int) ([] : List Int) ([] : List Int) ([] : List Int) 0)) else (some (([] : List Int), ([] : List Int), ([] : List Int), ([] : List Int), 0, t184)))
theorem standbyref56_Plan.mono_l : ∀ k, (∀ y0 y1 y2 y3 y4 y5 y6 y7 y8 y9 y10 y11 y12 y13, LeO (standbyref56_Plan.l0 k y0 y1 y2 y3 y4 y5 y6 y7 y8 y9 y10 y11 y12 y13) (standbyref56_Plan.l0 (k + 1) y0 y1 y2 y3 y4 y5 y6 y7 y8 y9 y10 y11 y12 y13)) ∧ (∀ y0 y1 y2 y3 y4 y5 y6 y7 y8 y9 y10 y11 y12 y13 y14 y15, LeO (standbyref56_Plan.j1 k y0 y1 y2 y3 y4 y5 y6 y7 y8 y9 y10 y11 y12 y13 y14 y15) (standbyref56_Plan.j1 (k + 1) y0 y1 y2 y3 y4 y5 y6 y7 y8 y9 y10 y11 y12 y13 y14 y15)) ∧ (∀ y0 y1 y2 y3 y4 y5 y6 y7 y8 y9 y10 y11 y12 y13 y14 y15, LeO (standbyref56_Plan.j2 k y0 y1 y2 y3 y4 y5 y6 y7 y8 y9 y10 y11 y12 y13 y14 y15) (standbyref56_Plan.j2 (k + 1) y0 y1 y2 y3 y4 y5 y6 y7 y8 y9 y10 y11 y12 y13 y14 y15))
 | 0 => ⟨fun _ _ _ _ _ _ _ _ _ _ _ _ _ _ r h => by simp [standbyref56_Plan.l0] at h, fun _ _ _ _ _ _ _ _ _ _ _ _ _ _ _ _ r h => by simp [standbyref56_Plan.j1] at h, fun _ _ _ _ _ _ _ _ _ _ _ _ _ _ _ _ r h => by simp [standbyref56_Plan.j2] at h⟩
 | k + 1 => by
  obtain ⟨ih0, ih1, ih2⟩ := standbyref56_Plan.mono_l k
  refine ⟨?_, ?_, ?_⟩
  ·intro y0 y1 y2 y3 y4 y5 y6 y7 y8 y9 y10 y11 y12 y13
   unfold standbyref56_Plan.l0
   repeat' first
   | (with_reducible exact ih0 _ _ _ _ _ _ _ _ _ _ _ _ _ _)
   | (with_reducible exact ih1 _ _ _ _ _ _ _ _ _ _ _ _ _ _ _ _)
   | (with_reducible exact ih2 _ _ _ _ _ _ _ _ _ _ _ _ _ _ _ _)
   | (with_reducible exact standbyref56_Check.mono _ _ _ _ _ _)
   | (with_reducible exact standbyref56_Size.mono _ _ _ _ _ _ _)
   | (with_reducible exact standbyref56_finish.mono _ _ _ _ _ _ _ _)
   | (with_reducible exact LeO.refl _)
   | (with_reducible exact LeO.none _)
   | (with_reducible refine LeO.ite ?_ ?_)
   | (with_reducible refine LeO.bind ?_ (fun _ => ?_))
   | exact ih0 _ _ _ _ _ _ _ _ _ _ _ _ _ _
   | exact ih1 _ _ _ _ _ _ _ _ _ _ _ _ _ _ _ _
   | exact ih2 _ _ _ _ _ _ _ _ _ _ _ _ _ _ _ _
   | exact standbyref56_Check.mono _ _ _ _ _ _
   | exact standbyref56_Size.mono _ _ _ _ _ _ _
   | exact standbyref56_finish.mono _ _ _ _ _ _ _ _
   | exact LeO.none _
   | refine LeO.ite ?_ ?_
   | refine LeO.bind ?_ (fun _ => ?_)
  ·intro y0 y1 y2 y3 y4 y5 y6 y7 y8 y9 y10 y11 y12 y13 y14 y15
   unfold standbyref56_Plan.j1
   repeat' first
   | (with_reducible exact ih0 _ _ _ _ _ _ _ _ _ _ _ _ _ _)
   | (with_reducible exact ih1 _ _ _ _ _ _ _ _ _ _ _ _ _ _ _ _)
   | (with_reducible exact ih2 _ _ _ _ _ _ _ _ _ _ _ _ _ _ _ _)
   | (with_reducible exact standbyref56_Check.mono _ _ _ _ _ _)
   | (with_reducible exact standbyref56_Size.mono _ _ _ _ _ _ _)
   | (with_reducible exact standbyref56_finish.mono _ _ _ _ _ _ _ _)
   | (with_reducible exact LeO.refl _)
   | (with_reducible exact LeO.none _)
   | (with_reducible refine LeO.ite ?_ ?_)
   | (with_reducible refine LeO.bind ?_ (fun _ => ?_))
   | exact ih0 _ _ _ _ _ _ _ _ _ _ _ _ _ _
   | exact ih1 _ _ _ _ _ _ _ _ _ _ _ _ _ _ _ _
   | exact ih2 _ _ _ _ _ _ _ _ _ _ _ _ _ _ _ _
   | exact standbyref56_Check.mono _ _ _ _ _ _
   | exact standbyref56_Size.mono _ _ _ _ _ _ _
   | exact standbyref56_finish.mono _ _ _ _ _ _ _ _
   | exact LeO.none _
   | refine LeO.ite ?_ ?_
   | refine LeO.bind ?_ (fun _ => ?_)
  ·intro y0 y1 y2 y3 y4 y5 y6 y7 y8 y9 y10 y11 y12 y13 y14 y15
   unfold standbyref56_Plan.j2
   repeat' first
   | (with_reducible exact ih0 _ _ _ _ _ _ _ _ _ _ _ _ _ _)
   | (with_reducible exact ih1 _ _ _ _ _ _ _ _ _ _ _ _ _ _ _ _)
   | (with_reducible exact ih2 _ _ _ _ _ _ _ _ _ _ _ _ _ _ _ _)
   | (with_reducible exact standbyref56_Check.mono _ _ _ _ _ _)
   | (with_reducible exact standbyref56_Size.mono _ _ _ _ _ _ _)
   | (with_reducible exact standbyref56_finish.mono _ _ _ _ _ _ _ _)
   | (with_reducible exact LeO.refl _)
   | (with_reducible exact LeO.none _)
   | (with_reducible refine LeO.ite ?_ ?_)
   | (with_reducible refine LeO.bind ?_ (fun _ => ?_))
   | exact ih0 _ _ _ _ _ _ _ _ _ _ _ _ _ _
   | exact ih1 _ _ _ _ _ _ _ _ _ _ _ _ _ _ _ _
   | exact ih2 _ _ _ _ _ _ _ _ _ _ _ _ _ _ _ _
   | exact standbyref56_Check.mono _ _ _ _ _ _
   | exact standbyref56_Size.mono _ _ _ _ _ _ _
   | exact standbyref56_finish.mono _ _ _ _ _ _ _ _
   | exact LeO.none _
   | refine LeO.ite ?_ ?_
   | refine LeO.bind ?_ (fun _ => ?_)
theorem standbyref56_Plan.mono : ∀ a0 a1 a2 a3 a4 k, LeO (standbyref56_Plan.f k a0 a1 a2 a3 a4) (standbyref56_Plan.f (k + 1) a0 a1 a2 a3 a4) := by
 intro a0 a1 a2 a3 a4 k
 obtain ⟨ih0, ih1, ih2⟩ := standbyref56_Plan.mono_l k
 unfold standbyref56_Plan.f
 repeat' first
   | (with_reducible exact ih0 _ _ _ _ _ _ _ _ _ _ _ _ _ _)
   | (with_reducible exact ih1 _ _ _ _ _ _ _ _ _ _ _ _ _ _ _ _)
   | (with_reducible exact ih2 _ _ _ _ _ _ _ _ _ _ _ _ _ _ _ _)
   | (with_reducible exact standbyref56_Check.mono _ _ _ _ _ _)
   | (with_reducible exact standbyref56_Size.mono _ _ _ _ _ _ _)
   | (with_reducible exact standbyref56_finish.mono _ _ _ _ _ _ _ _)
   | (with_reducible exact LeO.refl _)
   | (with_reducible exact LeO.none _)
   | (with_reducible refine LeO.ite ?_ ?_)
   | (with_reducible refine LeO.bind ?_ (fun _ => ?_))
   | exact ih0 _ _ _ _ _ _ _ _ _ _ _ _ _ _
   | exact ih1 _ _ _ _ _ _ _ _ _ _ _ _ _ _ _ _
   | exact ih2 _ _ _ _ _ _ _ _ _ _ _ _ _ _ _ _
   | exact standbyref56_Check.mono _ _ _ _ _ _
   | exact standbyref56_Size.mono _ _ _ _ _ _ _
   | exact standbyref56_finish.mono _ _ _ _ _ _ _ _
   | exact LeO.none _
   | refine LeO.ite ?_ ?_
   | refine LeO.bind ?_ (fun _ => ?_)
def standbyref56_Plan.T12 : Bool × List (List Nat × List Nat) := (true, [([], []), ([], []), ([], []), ([], []), ([2, 3], [2, 3]), ([0, 1, 4, 4], [0, 1, 4]), ([5], [5]), ([6], [6]), ([6], [6]), ([7, 5, 0, 1, 2, 3, 4, 5, 6, 7], [7]), ([8, 9, 0, 1, 2, 3, 4, 5, 6, 7, 8, 9], [8])])
def standbyref56_Plan.B12 : List Nat := [0, 0, 0, 0, 12, 31, 63, 127, 127, 255, 1023]
theorem standbyref56_Plan.tab12 : rtab .any (opsOf Try.f14 12) = standbyref56_Plan.T12 := by kernel_rfl
theorem standbyref56_Plan.bits12 : waitsOk standbyref56_Plan.T12.2 standbyref56_Plan.B12 = true := by kernel_rfl
def standbyref56_Plan.T17 : Bool × List (List Nat × List Nat) := (true, [([], []), ([0], [0]), ([], []), ([2], [2]), ([1, 3], [1, 3]), ([], []), ([5], [5]), ([], []), ([7], [7]), ([6, 8, 4], [6, 8]), ([0, 1, 2, 3, 4, 5, 6], []), ([10, 4, 9, 0, 1, 2, 3, 4, 5, 6], [4, 10]), ([0, 1, 2, 3, 4, 5, 6, 7, 8, 9, 10, 11], []), ([12, 9, 11, 0, 1, 2, 3, 4, 5, 6, 7, 8, 9, 10, 11], [9, 12])])
def standbyref56_Plan.B17 : List Nat := [0, 1, 0, 4, 15, 0, 32, 0, 128, 511, 127, 2047, 4095, 8191]
theorem standbyref56_Plan.tab17 : rtab .any (opsOf Try.f14 17) = standbyref56_Plan.T17 := by kernel_rfl
theorem standbyref56_Plan.bits17 : waitsOk standbyref56_Plan.T17.2 standbyref56_Plan.B17 = true := by kernel_rfl
def standbyref56_Plan.T18 : Bool × List (List Nat × List Nat) := (true, [([], []), ([0], [0]), ([], []), ([2], [2]), ([1, 3], [1, 3]), ([], []), ([5], [5]), ([], []), ([7], [7]), ([6, 8, 4], [6, 8]), ([0, 1, 2, 3, 4, 5, 6], []), ([10, 4, 9, 0, 1, 2, 3, 4, 5, 6], [4, 10]), ([0, 1, 2, 3, 4, 5, 6, 7, 8, 9, 10, 11], []), ([12, 9, 11, 0, 1, 2, 3, 4, 5, 6, 7, 8, 9, 10, 11], [9, 12])])
def standbyref56_Plan.B18 : List Nat := [0, 1, 0, 4, 15, 0, 32, 0, 128, 511, 127, 2047, 4095, 8191]
theorem standbyref56_Plan.tab18 : rtab .any (opsOf Try.f14 18) = standbyref56_Plan.T18 := by kernel_rfl
theorem standbyref56_Plan.bits18 : waitsOk standbyref56_Plan.T18.2 standbyref56_Plan.B18 = true := by kernel_rfl
set_option maxHeartbeats 8000000 in
set_option maxRecDepth 100000 in
theorem standbyref56_Plan.calls (k : Nat) (bN : Option Addr) (bO : Nat) (aP : List Int) (bP : Option Addr) (bQ : Nat) (aZ : List Int) (aE : Int) (aK : Int) (aM : Int) (r1 : List Int) (r2 : List Int) (r3 : List Int) (r4 : List Int) (r5 : Int) (r6 : Int) (w : World) (fV : Kd.C (Kd.int .i64) w bN aP.length aP) (fW : aP.length ≤ bO) (fX : Kd.C (Kd.int .i64) w bP aZ.length aZ) (fY : aZ.length ≤ bQ) (h : standbyref56_Plan.f k aP aZ aE aK aM = some (r1, r2, r3, r4, r5, r6)) :
  Calls Try.prog 14 #[.agg #[.slice bN aP.length bO, .slice bP aZ.length bQ, .int .i64 aE, .int .i64 aK, .int .i64 aM]] w fun e w' => ∃ v0_ v1_ v2_ v3_ : Value, e = .returned (.tuple #[.agg #[v0_, v1_, v2_, v3_, .int .i64 r5], .int .i64 r6]) ∧ Kd.R (Kd.int .i64) 3 w' w.heap.size (fun k_ => some k_ ≠ (v1_ : Value).ownBlock ∧ some k_ ≠ (v2_ : Value).ownBlock ∧ some k_ ≠ (v3_ : Value).ownBlock) v0_ r1 ∧ Kd.R (Kd.int .i64) 3 w' w.heap.size (fun k_ => some k_ ≠ (v0_ : Value).ownBlock ∧ some k_ ≠ (v2_ : Value).ownBlock ∧ some k_ ≠ (v3_ : Value).ownBlock) v1_ r2 ∧ Kd.R (Kd.int .i64) 3 w' w.heap.size (fun k_ => some k_ ≠ (v0_ : Value).ownBlock ∧ some k_ ≠ (v1_ : Value).ownBlock ∧ some k_ ≠ (v3_ : Value).ownBlock) v2_ r3 ∧ Kd.R (Kd.int .i64) 3 w' w.heap.size (fun k_ => some k_ ≠ (v0_ : Value).ownBlock ∧ some k_ ≠ (v1_ : Value).ownBlock ∧ some k_ ≠ (v2_ : Value).ownBlock) v3_ r4 ∧ Below w.heap.size w w' := by
 have hu24 := Try.underlying24
 have hu28 := Try.underlying28
 have dW := Aside0.mk fV
 have dX := Aside0.mk fW
 clear fV fW
 have dY := Aside0.mk fX
 have dZ := Aside0.mk fY
 clear fX fY
 have HB := Aside0.mk (Below.refl w.heap.size w)
 have H : ((standbyref56_Check.f k aP aZ aE aK aM).bind fun t184 => (if t184 = 0 then (if aE = 0 then (none) else (standbyref56_Plan.l0 k (wrap64 (Int.tdiv (wrap64 ((wrap64 ((aP.length : Int) + aE)) - 1)) aE)) 0 0 0 aP aZ aE aK aM ([] : List Int) ([] : List Int) ([] : List Int) ([] : List Int) 0)) else (some (([] : List Int), ([] : List Int), ([] : List Int), ([] : List Int), 0, t184)))) = some (r1, r2, r3, r4, r5, r6) := h
 clear h
 replace H := Option.bind_eq_some_iff.mp H
 obtain ⟨t184, A20, H⟩ := H
 replace H : (if t184 = 0 then (if aE = 0 then (none) else (standbyref56_Plan.l0 k (wrap64 (Int.tdiv (wrap64 ((wrap64 ((aP.length : Int) + aE)) - 1)) aE)) 0 0 0 aP aZ aE aK aM ([] : List Int) ([] : List Int) ([] : List Int) ([] : List Int) 0)) else (some (([] : List Int), ([] : List Int), ([] : List Int), ([] : List Int), 0, t184))) = some (r1, r2, r3, r4, r5, r6) := H
 have A2 := Aside0.mk A20
 clear A20
 by_cases c3 : t184 = 0
 case neg =>
  rw [if_neg c3] at H
  have fZ : (t184 == 0) = false := beq_eq_false_iff_ne.mpr c3
  have gA : (t184 != 0) = true := bne_iff_ne.mpr c3
  simp only [Option.some.injEq, Prod.mk.injEq] at H
  obtain ⟨rfl, rfl, rfl, rfl, rfl, rfl⟩ := H
  go_enter Try.func14, Try.ntmps14
  go_wp2_with (first | ((with_reducible refine gate_dst (N := 1) rfl ?_); refine box_event ?hg (N := 1) ?hd (cs := #[.slice bN aP.length bO, .slice bP aZ.length bQ, .int .i64 aE, .int .i64 aK, .int .i64 aM]) (t := 24) ?hr ?_; (case hd => rfl); (case hg => rfl); (case hr => first | (go_simp; done) | (go_simp; rfl)); intro bA hg w110 hbox hb; have n0_ := Aside0.mk (below_step (qW HB.out) hb); have n1_ := Aside0.mk (hbox); have n2_ := Aside0.mk ((by rw [hg]; exact (below_size (qW HB.out)) : w.heap.size ≤ bA)); have n3_ := Aside0.mk ((by rw [hg]; exact (below_size (qW HB.out)) : w.heap.size ≤ bA)); clear HB; have HB := n0_; have aC := n1_; have gM := n2_; have cO := n3_; clear n0_ n1_ n2_ n3_ hb hbox hg) | ((with_reducible refine gate_dst (N := 2) rfl ?_); refine box_event ?hg (N := 2) ?hd (cs := #[.slice none 0 0, .slice none 0 0, .slice none 0 0, .slice none 0 0, .int .i64 0]) (t := 28) ?hr ?_; (case hd => rfl); (case hg => rfl); (case hr => first | (go_simp; done) | (go_simp; rfl)); intro aQ hg w111 hbox hb; have n0_ := Aside0.mk (blk_below (qB aC.out) hb); have n1_ := Aside0.mk (below_step (qW HB.out) hb); have n2_ := Aside0.mk (hbox); have n3_ := Aside0.mk ((by rw [hg]; exact (below_size (qW HB.out)) : w.heap.size ≤ aQ)); have n4_ := Aside0.mk ((by rw [hg]; exact (below_size (qW HB.out)) : w.heap.size ≤ aQ)); have n5_ := Aside0.mk ((by rw [hg]; exact Nat.ne_of_lt (blk_lt (qB aC.out)) : bA ≠ aQ)); have n6_ := Aside0.mk ((by rw [hg]; exact Nat.ne_of_gt (blk_lt (qB aC.out)) : aQ ≠ bA)); clear aC HB; have aC := n0_; have HB := n1_; have aD := n2_; have gN := n3_; have cP := n4_; have dO := n5_; have dP := n6_; clear n0_ n1_ n2_ n3_ n4_ n5_ n6_ hb hbox hg; have iK := dO.out; have iL := dP.out; have iM : w111.cell? ⟨bA, 0, none⟩ = some (.slice bN aP.length bO) := (blk_cell aC.out 0).trans rfl; have iN : w111.cell? ⟨bA, 1, none⟩ = some (.slice bP aZ.length bQ) := (blk_cell aC.out 1).trans rfl; have iO : w111.cell? ⟨bA, 2, none⟩ = some (.int .i64 aE) := (blk_cell aC.out 2).trans rfl; have iP : w111.cell? ⟨bA, 3, none⟩ = some (.int .i64 aK) := (blk_cell aC.out 3).trans rfl; have iQ : w111.cell? ⟨bA, 4, none⟩ = some (.int .i64 aM) := (blk_cell aC.out 4).trans rfl; have iR := blk_frozen aC.out 0; have iS := blk_frozen aC.out 1; have iT := blk_frozen aC.out 2; have iU := blk_frozen aC.out 3; have iV := blk_frozen aC.out 4) | ((with_reducible refine gate_callee (f := 16) rfl ?_); refine goesL_ (some 16) rfl rfl Try.func16 (by kernel_rfl) rfl #[.agg #[.slice bN aP.length bO, .slice bP aZ.length bQ, .int .i64 aE, .int .i64 aK, .int .i64 aM]] rfl (by (try simp only [List.map_toArray, List.map_cons, List.map_nil]); first | done | rfl | (simp only [List.length_drop, List.length_take]; rfl)) ?_; (with_reducible refine (standbyref56_Check.calls k _ _ aP _ _ aZ aE aK aM t184 _ ?side1 ?side2 ?side3 ?side4 A2.out).mono ?_); (case side1 => exact qC dW.out HB.out); (case side2 => exact dX.out); (case side3 => exact qC dY.out HB.out); (case side4 => exact dZ.out); rintro e w114 ⟨rfl, hb⟩; refine ⟨_, rfl, ?_⟩; have n0_ := Aside0.mk (blk_below (qB aC.out) hb); have n1_ := Aside0.mk (blk_below (qB aD.out) hb); have n2_ := Aside0.mk (below_step (qW HB.out) hb); clear aC aD HB; have aC := n0_; have aD := n1_; have HB := n2_; clear n0_ n1_ n2_; (try clear hb); (try clear hb2); (try clear hk); (try clear hi); have iW : w114.cell? ⟨aQ, 0, none⟩ = some (.slice none 0 0) := (blk_cell aD.out 0).trans rfl; have iX : w114.cell? ⟨aQ, 1, none⟩ = some (.slice none 0 0) := (blk_cell aD.out 1).trans rfl; have iY : w114.cell? ⟨aQ, 2, none⟩ = some (.slice none 0 0) := (blk_cell aD.out 2).trans rfl; have iZ : w114.cell? ⟨aQ, 3, none⟩ = some (.slice none 0 0) := (blk_cell aD.out 3).trans rfl; have jA : w114.cell? ⟨aQ, 4, none⟩ = some (.int .i64 0) := (blk_cell aD.out 4).trans rfl; have jB := blk_frozen aD.out 0; have jC := blk_frozen aD.out 1; have jD := blk_frozen aD.out 2; have jE := blk_frozen aD.out 3; have jF := blk_frozen aD.out 4))
  refine bodyPost_ret (results_ct rfl _ _ aQ 28 #[.slice none 0 0, .slice none 0 0, .slice none 0 0, .slice none 0 0, .int .i64 0] (0, 0) _ rfl (by (with_reducible repeat (first | refine blk_drewN ?_ _ | refine blk_drew ?_ | refine blk_alloc ?_ _)); refine blk_put (cs := #[.slice none 0 0, .slice none 0 0, .slice none 0 0, .slice none 0 0, .int .i64 0]) ?_ 4 _ rfl; (with_reducible repeat (first | refine blk_drewN ?_ _ | refine blk_drew ?_ | refine blk_alloc ?_ _)); refine blk_put (cs := #[.slice none 0 0, .slice none 0 0, .slice none 0 0, .slice none 0 0, .int .i64 0]) ?_ 3 _ rfl; (with_reducible repeat (first | refine blk_drewN ?_ _ | refine blk_drew ?_ | refine blk_alloc ?_ _)); refine blk_put (cs := #[.slice none 0 0, .slice none 0 0, .slice none 0 0, .slice none 0 0, .int .i64 0]) ?_ 2 _ rfl; (with_reducible repeat (first | refine blk_drewN ?_ _ | refine blk_drew ?_ | refine blk_alloc ?_ _)); refine blk_put (cs := #[.slice none 0 0, .slice none 0 0, .slice none 0 0, .slice none 0 0, .int .i64 0]) ?_ 1 _ rfl; (with_reducible repeat (first | refine blk_drewN ?_ _ | refine blk_drew ?_ | refine blk_alloc ?_ _)); refine blk_put (cs := #[.slice none 0 0, .slice none 0 0, .slice none 0 0, .slice none 0 0, .int .i64 0]) ?_ 0 _ rfl; exact qB aD.out) Try.underlying28 rfl (by kernel_rfl)) rfl ?_
  exact ⟨_, _, _, _, by first | rfl | (simp [errW_none, errW_some] <;> rfl) | (simp [*, errW_none, errW_some] <;> rfl), by first | exact Kd.R_nil _ _ _ _ _ | exact Kd.N_nil _ _ _ _ _ | exact Kd.V_nil _ _ _ _ _ | exact Kd.Q_nil _ _ _ _ _ | exact Kd.S_nil _ _ _ _ _, by first | exact Kd.R_nil _ _ _ _ _ | exact Kd.N_nil _ _ _ _ _ | exact Kd.V_nil _ _ _ _ _ | exact Kd.Q_nil _ _ _ _ _ | exact Kd.S_nil _ _ _ _ _, by first | exact Kd.R_nil _ _ _ _ _ | exact Kd.N_nil _ _ _ _ _ | exact Kd.V_nil _ _ _ _ _ | exact Kd.Q_nil _ _ _ _ _ | exact Kd.S_nil _ _ _ _ _, by first | exact Kd.R_nil _ _ _ _ _ | exact Kd.N_nil _ _ _ _ _ | exact Kd.V_nil _ _ _ _ _ | exact Kd.Q_nil _ _ _ _ _ | exact Kd.S_nil _ _ _ _ _, by repeat (first | (with_reducible first | exact HB.out | apply below_alloc | apply pw_below_drewN | apply below_drew1 | refine below_set ?_ cO.out | refine below_set ?_ cP.out) | exact HB.out)⟩

 rw [if_pos c3] at H
 have fZ : (t184 == 0) = true := beq_iff_eq.mpr c3
 have gA : (t184 != 0) = false := bne_eq_false_iff_eq.mpr c3
 clear c3
 by_cases c4 : aE = 0
 ·rw [if_pos c4] at H
  exact absurd H (by simp)
 ·rw [if_neg c4] at H
  have gO : (aE == 0) = false := beq_eq_false_iff_ne.mpr c4
  have gP : (aE != 0) = true := bne_iff_ne.mpr c4
  have H' := Aside0.mk H
  clear H
  go_enter Try.func14, Try.ntmps14
  go_wp2_with (first | ((with_reducible refine gate_dst (N := 1) rfl ?_); refine box_event ?hg (N := 1) ?hd (cs := #[.slice bN aP.length bO, .slice bP aZ.length bQ, .int .i64 aE, .int .i64 aK, .int .i64 aM]) (t := 24) ?hr ?_; (case hd => rfl); (case hg => rfl); (case hr => first | (go_simp; done) | (go_simp; rfl)); intro bA hg w5 hbox hb; have n0_ := Aside0.mk (below_step (qW HB.out) hb); have n1_ := Aside0.mk (hbox); have n2_ := Aside0.mk ((by rw [hg]; exact (below_size (qW HB.out)) : w.heap.size ≤ bA)); have n3_ := Aside0.mk ((by rw [hg]; exact (below_size (qW HB.out)) : w.heap.size ≤ bA)); clear HB; have HB := n0_; have aC := n1_; have gM := n2_; have cO := n3_; clear n0_ n1_ n2_ n3_ hb hbox hg) | ((with_reducible refine gate_dst (N := 2) rfl ?_); refine box_event ?hg (N := 2) ?hd (cs := #[.slice none 0 0, .slice none 0 0, .slice none 0 0, .slice none 0 0, .int .i64 0]) (t := 28) ?hr ?_; (case hd => rfl); (case hg => rfl); (case hr => first | (go_simp; done) | (go_simp; rfl)); intro aQ hg w6 hbox hb; have n0_ := Aside0.mk (blk_below (qB aC.out) hb); have n1_ := Aside0.mk (below_step (qW HB.out) hb); have n2_ := Aside0.mk (hbox); have n3_ := Aside0.mk ((by rw [hg]; exact (below_size (qW HB.out)) : w.heap.size ≤ aQ)); have n4_ := Aside0.mk ((by rw [hg]; exact (below_size (qW HB.out)) : w.heap.size ≤ aQ)); have n5_ := Aside0.mk ((by rw [hg]; exact Nat.ne_of_lt (blk_lt (qB aC.out)) : bA ≠ aQ)); have n6_ := Aside0.mk ((by rw [hg]; exact Nat.ne_of_gt (blk_lt (qB aC.out)) : aQ ≠ bA)); clear aC HB; have aC := n0_; have HB := n1_; have aD := n2_; have gN := n3_; have cP := n4_; have dO := n5_; have dP := n6_; clear n0_ n1_ n2_ n3_ n4_ n5_ n6_ hb hbox hg; have jG := dO.out; have jH := dP.out; have gQ : w6.cell? ⟨bA, 0, none⟩ = some (.slice bN aP.length bO) := (blk_cell aC.out 0).trans rfl; have gR : w6.cell? ⟨bA, 1, none⟩ = some (.slice bP aZ.length bQ) := (blk_cell aC.out 1).trans rfl; have gS : w6.cell? ⟨bA, 2, none⟩ = some (.int .i64 aE) := (blk_cell aC.out 2).trans rfl; have gT : w6.cell? ⟨bA, 3, none⟩ = some (.int .i64 aK) := (blk_cell aC.out 3).trans rfl; have gU : w6.cell? ⟨bA, 4, none⟩ = some (.int .i64 aM) := (blk_cell aC.out 4).trans rfl; have gV := blk_frozen aC.out 0; have gW := blk_frozen aC.out 1; have gX := blk_frozen aC.out 2; have gY := blk_frozen aC.out 3; have gZ := blk_frozen aC.out 4) | ((with_reducible refine gate_callee (f := 16) rfl ?_); refine goesL_ (some 16) rfl rfl Try.func16 (by kernel_rfl) rfl #[.agg #[.slice bN aP.length bO, .slice bP aZ.length bQ, .int .i64 aE, .int .i64 aK, .int .i64 aM]] rfl (by (try simp only [List.map_toArray, List.map_cons, List.map_nil]); first | done | rfl | (simp only [List.length_drop, List.length_take]; rfl)) ?_; (with_reducible refine (standbyref56_Check.calls k _ _ aP _ _ aZ aE aK aM t184 _ ?side1 ?side2 ?side3 ?side4 A2.out).mono ?_); (case side1 => exact qC dW.out HB.out); (case side2 => exact dX.out); (case side3 => exact qC dY.out HB.out); (case side4 => exact dZ.out); rintro e w9 ⟨rfl, hb⟩; refine ⟨_, rfl, ?_⟩; have n0_ := Aside0.mk (blk_below (qB aC.out) hb); have n1_ := Aside0.mk (blk_below (qB aD.out) hb); have n2_ := Aside0.mk (below_step (qW HB.out) hb); clear aC aD HB; have aC := n0_; have aD := n1_; have HB := n2_; clear n0_ n1_ n2_; (try clear hb); (try clear hb2); (try clear hk); (try clear hi)) | ((with_reducible refine gate_dst (N := 5) rfl ?_); refine box_event ?hg (N := 5) ?hd (cs := #[.slice none 0 0, .slice none 0 0, .slice none 0 0, .slice none 0 0, .int .i64 0]) (t := 28) ?hr ?_; (case hd => rfl); (case hg => rfl); (case hr => first | (go_simp; done) | (go_simp; rfl)); intro aN hg w10 hbox hb; have n0_ := Aside0.mk (blk_below (qB aC.out) hb); have n1_ := Aside0.mk (blk_below (qB aD.out) hb); have n2_ := Aside0.mk (below_step (qW HB.out) hb); have n3_ := Aside0.mk (hbox); have n4_ := Aside0.mk ((by rw [hg]; exact (below_size (qW HB.out)) : w.heap.size ≤ aN)); have n5_ := Aside0.mk ((by rw [hg]; exact (below_size (qW HB.out)) : w.heap.size ≤ aN)); have n6_ := Aside0.mk ((by rw [hg]; exact Nat.ne_of_lt (blk_lt (qB aC.out)) : bA ≠ aN)); have n7_ := Aside0.mk ((by rw [hg]; exact Nat.ne_of_gt (blk_lt (qB aC.out)) : aN ≠ bA)); have n8_ := Aside0.mk ((by rw [hg]; exact Nat.ne_of_lt (blk_lt (qB aD.out)) : aQ ≠ aN)); have n9_ := Aside0.mk ((by rw [hg]; exact Nat.ne_of_gt (blk_lt (qB aD.out)) : aN ≠ aQ)); clear aC aD HB; have aC := n0_; have aD := n1_; have HB := n2_; have aA := n3_; have jI := n4_; have dE := n5_; have bY := n6_; have cK := n7_; have cB := n8_; have cT := n9_; clear n0_ n1_ n2_ n3_ n4_ n5_ n6_ n7_ n8_ n9_ hb hbox hg; have jJ := bY.out; have jK := cK.out; have hA : w10.cell? ⟨bA, 0, none⟩ = some (.slice bN aP.length bO) := (blk_cell aC.out 0).trans rfl; have hB : w10.cell? ⟨bA, 1, none⟩ = some (.slice bP aZ.length bQ) := (blk_cell aC.out 1).trans rfl; have hC : w10.cell? ⟨bA, 2, none⟩ = some (.int .i64 aE) := (blk_cell aC.out 2).trans rfl; have hD : w10.cell? ⟨bA, 3, none⟩ = some (.int .i64 aK) := (blk_cell aC.out 3).trans rfl; have hE : w10.cell? ⟨bA, 4, none⟩ = some (.int .i64 aM) := (blk_cell aC.out 4).trans rfl; have hF := blk_frozen aC.out 0; have hG := blk_frozen aC.out 1; have hH := blk_frozen aC.out 2; have hI := blk_frozen aC.out 3; have hJ := blk_frozen aC.out 4))
  go_loopg [7, 8, 9] k (fun kq v7 v8 v9 w' => ∃ (dF : Int) (bM : Int) (aT : Int) (bL : Int) (bD : List Int) (aU : List Int) (bE : List Int) (aV : List Int) (bC : Int) (aW : Value) (aX : Value) (aY : Value) (bB : Value), v7 = .int .i64 dF ∧ v8 = .int .i64 bM ∧ v9 = .int .i64 aT ∧ Aside0 (standbyref56_Plan.l0 kq (wrap64 (Int.tdiv (wrap64 ((wrap64 ((aP.length : Int) + aE)) - 1)) aE)) dF bM aT aP aZ aE aK aM bD aU bE aV bC = some (r1, r2, r3, r4, r5, r6)) ∧ Aside0 (kq ≤ k) ∧ Aside0 (Kd.R (Kd.int .i64) 3 w' w.heap.size (fun k_ => some k_ ≠ (aX : Value).ownBlock ∧ some k_ ≠ (aY : Value).ownBlock ∧ some k_ ≠ (bB : Value).ownBlock) aW bD) ∧ Aside0 (Kd.R (Kd.int .i64) 3 w' w.heap.size (fun k_ => some k_ ≠ (aW : Value).ownBlock ∧ some k_ ≠ (aY : Value).ownBlock ∧ some k_ ≠ (bB : Value).ownBlock) aX aU) ∧ Aside0 (Kd.R (Kd.int .i64) 3 w' w.heap.size (fun k_ => some k_ ≠ (aW : Value).ownBlock ∧ some k_ ≠ (aX : Value).ownBlock ∧ some k_ ≠ (bB : Value).ownBlock) aY bE) ∧ Aside0 (Kd.R (Kd.int .i64) 3 w' w.heap.size (fun k_ => some k_ ≠ (aW : Value).ownBlock ∧ some k_ ≠ (aX : Value).ownBlock ∧ some k_ ≠ (aY : Value).ownBlock) bB aV) ∧ Aside0 (w'.heap[bA]? = some (.cells #[(.slice bN aP.length bO), (.slice bP aZ.length bQ), .int .i64 aE, .int .i64 aK, .int .i64 aM] 24 (0, 0))) ∧ Aside0 (w'.heap[aQ]? = some (.cells #[(.slice none 0 0), (.slice none 0 0), (.slice none 0 0), (.slice none 0 0), .int .i64 bL] 28 (0, 0))) ∧ Aside0 (w'.heap[aN]? = some (.cells #[aW, aX, aY, bB, .int .i64 bC] 28 (0, 0))) ∧ Aside0 (Below w.heap.size w w'))
  case atStart => exact ⟨(0), (0), (0), (0), (([] : List Int)), (([] : List Int)), (([] : List Int)), (([] : List Int)), (0), (.slice none 0 0), (.slice none 0 0), (.slice none 0 0), (.slice none 0 0), (by first | rfl | (simp; done) | (simp [*]; done)), (by first | rfl | (simp; done) | (simp [*]; done)), (by first | rfl | (simp; done) | (simp [*]; done)), H', ⟨Nat.le_refl _⟩, ⟨by first | exact Kd.R_nil _ _ _ _ _ | exact Kd.N_nil _ _ _ _ _ | exact Kd.V_nil _ _ _ _ _ | exact Kd.Q_nil _ _ _ _ _ | exact Kd.S_nil _ _ _ _ _⟩, ⟨by first | exact Kd.R_nil _ _ _ _ _ | exact Kd.N_nil _ _ _ _ _ | exact Kd.V_nil _ _ _ _ _ | exact Kd.Q_nil _ _ _ _ _ | exact Kd.S_nil _ _ _ _ _⟩, ⟨by first | exact Kd.R_nil _ _ _ _ _ | exact Kd.N_nil _ _ _ _ _ | exact Kd.V_nil _ _ _ _ _ | exact Kd.Q_nil _ _ _ _ _ | exact Kd.S_nil _ _ _ _ _⟩, ⟨by first | exact Kd.R_nil _ _ _ _ _ | exact Kd.N_nil _ _ _ _ _ | exact Kd.V_nil _ _ _ _ _ | exact Kd.Q_nil _ _ _ _ _ | exact Kd.S_nil _ _ _ _ _⟩, ⟨by exact qB aC.out⟩, ⟨by exact qB aD.out⟩, ⟨by exact qB aA.out⟩, ⟨by repeat (first | (with_reducible first | exact HB.out | apply below_alloc | apply pw_below_drewN | apply below_drew1 | refine below_set ?_ cO.out | refine below_set ?_ cP.out | refine below_set ?_ dE.out) | exact HB.out)⟩⟩
  case round =>
   clear H'
   try clear c1
   try clear p2
   try clear c3
   try clear fZ
   try clear gA
   try clear c4
   try clear gO
   try clear gP
   try clear p6
   try clear c7
   try clear c11
   try clear hA
   try clear hB
   try clear hC
   try clear hD
   try clear hE
   try clear gQ
   try clear gR
   try clear gS
   try clear gT
   try clear gU
   try clear hF
   try clear hG
   try clear hH
   try clear hI
   try clear hJ
   try clear gV
   try clear gW
   try clear gX
   try clear gY
   try clear gZ
   obtain ⟨dF, bM, aT, bL, bD, aU, bE, aV, bC, aW, aX, aY, bB, rfl, rfl, rfl, HA, HK1, aI, aH, aJ, aG, aC, aD, aA, HB⟩ := hrel
   cases gk with
   | zero => exact absurd HA.out (by simp [standbyref56_Plan.l0])
   | succ k1 =>
    have H := HA.out
    clear HA
    simp only [standbyref56_Plan.l0] at H
    by_cases c13 : aT < (wrap64 (Int.tdiv (wrap64 ((wrap64 ((aP.length : Int) + aE)) - 1)) aE))
    case neg =>
     rw [if_neg c13] at H
     have hL : decide (aT < (wrap64 (Int.tdiv (wrap64 ((wrap64 ((aP.length : Int) + aE)) - 1)) aE))) = false := decide_eq_false c13
     clear c13
     by_cases c89 : (wrap64 (Int.tdiv (wrap64 ((wrap64 ((aP.length : Int) + aE)) - 1)) aE)) > 0
     case neg =>
      rw [if_neg c89] at H
      have hM : decide (0 < (wrap64 (Int.tdiv (wrap64 ((wrap64 ((aP.length : Int) + aE)) - 1)) aE))) = false := decide_eq_false c89
      clear c89
      simp only [Option.some.injEq, Prod.mk.injEq] at H
      obtain ⟨rfl, rfl, rfl, rfl, rfl, rfl⟩ := H
      have jL := cK.out
      have jM := bY.out
      have jN := cT.out
      have jO := cB.out
      have jP : wr.cell? ⟨aN, 0, none⟩ = some (aW) := (blk_cell aA.out 0).trans rfl
      have jQ : wr.cell? ⟨aN, 1, none⟩ = some (aX) := (blk_cell aA.out 1).trans rfl
      have jR : wr.cell? ⟨aN, 2, none⟩ = some (aY) := (blk_cell aA.out 2).trans rfl
      have jS : wr.cell? ⟨aN, 3, none⟩ = some (bB) := (blk_cell aA.out 3).trans rfl
      have jT : wr.cell? ⟨aN, 4, none⟩ = some (.int .i64 bC) := (blk_cell aA.out 4).trans rfl
      have jU := blk_frozen aA.out 0
      have jV := blk_frozen aA.out 1
      have jW := blk_frozen aA.out 2
      have jX := blk_frozen aA.out 3
      have jY := blk_frozen aA.out 4
      obtain ⟨dG, dH, hN⟩ := Kd.R_slice aI.out
      subst hN
      have jZ := dP.out
      have kA := dO.out
      have kB : wr.cell? ⟨aQ, 0, none⟩ = some (.slice none 0 0) := (blk_cell aD.out 0).trans rfl
      have kC : wr.cell? ⟨aQ, 1, none⟩ = some (.slice none 0 0) := (blk_cell aD.out 1).trans rfl
      have kD : wr.cell? ⟨aQ, 2, none⟩ = some (.slice none 0 0) := (blk_cell aD.out 2).trans rfl
      have kE : wr.cell? ⟨aQ, 3, none⟩ = some (.slice none 0 0) := (blk_cell aD.out 3).trans rfl
      have kF : wr.cell? ⟨aQ, 4, none⟩ = some (.int .i64 bL) := (blk_cell aD.out 4).trans rfl
      have kG := blk_frozen aD.out 0
      have kH := blk_frozen aD.out 1
      have kI := blk_frozen aD.out 2
      have kJ := blk_frozen aD.out 3
      have kK := blk_frozen aD.out 4
      obtain ⟨dK, dL, hO⟩ := Kd.R_slice aH.out
      subst hO
      obtain ⟨dQ, dR, hP⟩ := Kd.R_slice aJ.out
      subst hP
      obtain ⟨eA, eB, hQ⟩ := Kd.R_slice aG.out
      subst hQ
      go_wp2
      refine bodyPost_ret (results_ct rfl _ _ aQ 28 #[.slice dG bD.length dH, .slice dK aU.length dL, .slice dQ bE.length dR, .slice eA aV.length eB, .int .i64 bC] (0, 0) _ rfl (by (with_reducible repeat (first | refine blk_drewN ?_ _ | refine blk_drew ?_ | refine blk_alloc ?_ _)); refine blk_put (cs := #[.slice dG bD.length dH, .slice dK aU.length dL, .slice dQ bE.length dR, .slice eA aV.length eB, .int .i64 bL]) ?_ 4 _ rfl; (with_reducible repeat (first | refine blk_drewN ?_ _ | refine blk_drew ?_ | refine blk_alloc ?_ _)); refine blk_put (cs := #[.slice dG bD.length dH, .slice dK aU.length dL, .slice dQ bE.length dR, .slice none 0 0, .int .i64 bL]) ?_ 3 _ rfl; (with_reducible repeat (first | refine blk_drewN ?_ _ | refine blk_drew ?_ | refine blk_alloc ?_ _)); refine blk_put (cs := #[.slice dG bD.length dH, .slice dK aU.length dL, .slice none 0 0, .slice none 0 0, .int .i64 bL]) ?_ 2 _ rfl; (with_reducible repeat (first | refine blk_drewN ?_ _ | refine blk_drew ?_ | refine blk_alloc ?_ _)); refine blk_put (cs := #[.slice dG bD.length dH, .slice none 0 0, .slice none 0 0, .slice none 0 0, .int .i64 bL]) ?_ 1 _ rfl; (with_reducible repeat (first | refine blk_drewN ?_ _ | refine blk_drew ?_ | refine blk_alloc ?_ _)); refine blk_put (cs := #[.slice none 0 0, .slice none 0 0, .slice none 0 0, .slice none 0 0, .int .i64 bL]) ?_ 0 _ rfl; exact qB aD.out) Try.underlying28 rfl (by kernel_rfl)) rfl ?_
      exact ⟨_, _, _, _, by first | rfl | (simp [errW_none, errW_some] <;> rfl) | (simp [*, errW_none, errW_some] <;> rfl), by exact qR (Kd.R_mono (Kd.R_far (p := ⟨aQ, 4, none⟩) (Kd.R_far (p := ⟨aQ, 3, none⟩) (Kd.R_far (p := ⟨aQ, 2, none⟩) (Kd.R_far (p := ⟨aQ, 1, none⟩) (Kd.R_far (p := ⟨aQ, 0, none⟩) (Kd.R_types aI.out aD.out (by decide)) (fun _ hk => hk.2) (.slice dG bD.length dH)) (fun _ hk => hk.2) (.slice dK aU.length dL)) (fun _ hk => hk.2) (.slice dQ bE.length dR)) (fun _ hk => hk.2) (.slice eA aV.length eB)) (fun _ hk => hk.2) (.int .i64 bC)) (fun _ hk => ⟨hk.1.1, ⟨hk.1.2.1, hk.1.2.2⟩⟩)), by exact qR (Kd.R_mono (Kd.R_far (p := ⟨aQ, 4, none⟩) (Kd.R_far (p := ⟨aQ, 3, none⟩) (Kd.R_far (p := ⟨aQ, 2, none⟩) (Kd.R_far (p := ⟨aQ, 1, none⟩) (Kd.R_far (p := ⟨aQ, 0, none⟩) (Kd.R_types aH.out aD.out (by decide)) (fun _ hk => hk.2) (.slice dG bD.length dH)) (fun _ hk => hk.2) (.slice dK aU.length dL)) (fun _ hk => hk.2) (.slice dQ bE.length dR)) (fun _ hk => hk.2) (.slice eA aV.length eB)) (fun _ hk => hk.2) (.int .i64 bC)) (fun _ hk => ⟨hk.1.1, ⟨hk.1.2.1, hk.1.2.2⟩⟩)), by exact qR (Kd.R_mono (Kd.R_far (p := ⟨aQ, 4, none⟩) (Kd.R_far (p := ⟨aQ, 3, none⟩) (Kd.R_far (p := ⟨aQ, 2, none⟩) (Kd.R_far (p := ⟨aQ, 1, none⟩) (Kd.R_far (p := ⟨aQ, 0, none⟩) (Kd.R_types aJ.out aD.out (by decide)) (fun _ hk => hk.2) (.slice dG bD.length dH)) (fun _ hk => hk.2) (.slice dK aU.length dL)) (fun _ hk => hk.2) (.slice dQ bE.length dR)) (fun _ hk => hk.2) (.slice eA aV.length eB)) (fun _ hk => hk.2) (.int .i64 bC)) (fun _ hk => ⟨hk.1.1, ⟨hk.1.2.1, hk.1.2.2⟩⟩)), by exact qR (Kd.R_mono (Kd.R_far (p := ⟨aQ, 4, none⟩) (Kd.R_far (p := ⟨aQ, 3, none⟩) (Kd.R_far (p := ⟨aQ, 2, none⟩) (Kd.R_far (p := ⟨aQ, 1, none⟩) (Kd.R_far (p := ⟨aQ, 0, none⟩) (Kd.R_types aG.out aD.out (by decide)) (fun _ hk => hk.2) (.slice dG bD.length dH)) (fun _ hk => hk.2) (.slice dK aU.length dL)) (fun _ hk => hk.2) (.slice dQ bE.length dR)) (fun _ hk => hk.2) (.slice eA aV.length eB)) (fun _ hk => hk.2) (.int .i64 bC)) (fun _ hk => ⟨hk.1.1, ⟨hk.1.2.1, hk.1.2.2⟩⟩)), by repeat (first | (with_reducible first | exact HB.out | apply below_alloc | apply pw_below_drewN | apply below_drew1 | refine below_set ?_ cO.out | refine below_set ?_ cP.out | refine below_set ?_ dE.out) | exact HB.out)⟩
     rw [if_pos c89] at H
     have hM : decide (0 < (wrap64 (Int.tdiv (wrap64 ((wrap64 ((aP.length : Int) + aE)) - 1)) aE))) = true := decide_eq_true c89
     clear c89
     obtain ⟨ji90, fJ⟩ : ∃ j_ : Int, (mx bC (wrap64 ((wrap64 ((wrap64 (dF + aK)) + aM)) - bM))) = j_ := ⟨_, rfl⟩
     replace H : (some (bD, aU, bE, aV, ji90, 0)) = some (r1, r2, r3, r4, r5, r6) := by first | (rw [fJ] at H; exact H) | (simp only [fJ] at H ⊢; exact H)
     have kL : (if bC < (wrap64 ((wrap64 ((wrap64 (dF + aK)) + aM)) - bM)) then (wrap64 ((wrap64 ((wrap64 (dF + aK)) + aM)) - bM)) else bC) = ji90 := fJ
     simp only [Option.some.injEq, Prod.mk.injEq] at H
     obtain ⟨rfl, rfl, rfl, rfl, rfl, rfl⟩ := H
     have kM := cK.out
     have kN := bY.out
     have kO := cT.out
     have kP := cB.out
     have kQ : wr.cell? ⟨aN, 0, none⟩ = some (aW) := (blk_cell aA.out 0).trans rfl
     have kR : wr.cell? ⟨aN, 1, none⟩ = some (aX) := (blk_cell aA.out 1).trans rfl
     have kS : wr.cell? ⟨aN, 2, none⟩ = some (aY) := (blk_cell aA.out 2).trans rfl
     have kT : wr.cell? ⟨aN, 3, none⟩ = some (bB) := (blk_cell aA.out 3).trans rfl
     have kU : wr.cell? ⟨aN, 4, none⟩ = some (.int .i64 bC) := (blk_cell aA.out 4).trans rfl
     have kV := blk_frozen aA.out 0
     have kW := blk_frozen aA.out 1
     have kX := blk_frozen aA.out 2
     have kY := blk_frozen aA.out 3
     have kZ := blk_frozen aA.out 4
     have lA := dO.out
     have lB := dP.out
     have lC : wr.cell? ⟨bA, 0, none⟩ = some (.slice bN aP.length bO) := (blk_cell aC.out 0).trans rfl
     have lD : wr.cell? ⟨bA, 1, none⟩ = some (.slice bP aZ.length bQ) := (blk_cell aC.out 1).trans rfl
     have lE : wr.cell? ⟨bA, 2, none⟩ = some (.int .i64 aE) := (blk_cell aC.out 2).trans rfl
     have lF : wr.cell? ⟨bA, 3, none⟩ = some (.int .i64 aK) := (blk_cell aC.out 3).trans rfl
     have lG : wr.cell? ⟨bA, 4, none⟩ = some (.int .i64 aM) := (blk_cell aC.out 4).trans rfl
     have lH := blk_frozen aC.out 0
     have lI := blk_frozen aC.out 1
     have lJ := blk_frozen aC.out 2
     have lK := blk_frozen aC.out 3
     have lL := blk_frozen aC.out 4
     obtain ⟨dI, dJ, hR⟩ := Kd.R_slice aI.out
     subst hR
     have lM : wr.cell? ⟨aQ, 0, none⟩ = some (.slice none 0 0) := (blk_cell aD.out 0).trans rfl
     have lN : wr.cell? ⟨aQ, 1, none⟩ = some (.slice none 0 0) := (blk_cell aD.out 1).trans rfl
     have lO : wr.cell? ⟨aQ, 2, none⟩ = some (.slice none 0 0) := (blk_cell aD.out 2).trans rfl
     have lP : wr.cell? ⟨aQ, 3, none⟩ = some (.slice none 0 0) := (blk_cell aD.out 3).trans rfl
     have lQ : wr.cell? ⟨aQ, 4, none⟩ = some (.int .i64 bL) := (blk_cell aD.out 4).trans rfl
     have lR := blk_frozen aD.out 0
     have lS := blk_frozen aD.out 1
     have lT := blk_frozen aD.out 2
     have lU := blk_frozen aD.out 3
     have lV := blk_frozen aD.out 4
     obtain ⟨dM, dN, hS⟩ := Kd.R_slice aH.out
     subst hS
     obtain ⟨dS, dT, hT⟩ := Kd.R_slice aJ.out
     subst hT
     obtain ⟨eC, eD, hU⟩ := Kd.R_slice aG.out
     subst hU
     go_wp2
     refine bodyPost_ret (results_ct rfl _ _ aQ 28 #[.slice dI bD.length dJ, .slice dM aU.length dN, .slice dS bE.length dT, .slice eC aV.length eD, .int .i64 ji90] (0, 0) _ rfl (by (with_reducible repeat (first | refine blk_drewN ?_ _ | refine blk_drew ?_ | refine blk_alloc ?_ _)); refine blk_put (cs := #[.slice dI bD.length dJ, .slice dM aU.length dN, .slice dS bE.length dT, .slice eC aV.length eD, .int .i64 bL]) ?_ 4 _ rfl; (with_reducible repeat (first | refine blk_drewN ?_ _ | refine blk_drew ?_ | refine blk_alloc ?_ _)); refine blk_put (cs := #[.slice dI bD.length dJ, .slice dM aU.length dN, .slice dS bE.length dT, .slice none 0 0, .int .i64 bL]) ?_ 3 _ rfl; (with_reducible repeat (first | refine blk_drewN ?_ _ | refine blk_drew ?_ | refine blk_alloc ?_ _)); refine blk_put (cs := #[.slice dI bD.length dJ, .slice dM aU.length dN, .slice none 0 0, .slice none 0 0, .int .i64 bL]) ?_ 2 _ rfl; (with_reducible repeat (first | refine blk_drewN ?_ _ | refine blk_drew ?_ | refine blk_alloc ?_ _)); refine blk_put (cs := #[.slice dI bD.length dJ, .slice none 0 0, .slice none 0 0, .slice none 0 0, .int .i64 bL]) ?_ 1 _ rfl; (with_reducible repeat (first | refine blk_drewN ?_ _ | refine blk_drew ?_ | refine blk_alloc ?_ _)); refine blk_put (cs := #[.slice none 0 0, .slice none 0 0, .slice none 0 0, .slice none 0 0, .int .i64 bL]) ?_ 0 _ rfl; (with_reducible repeat (first | refine blk_drewN ?_ _ | refine blk_drew ?_ | refine blk_alloc ?_ _)); refine blk_far ?_ cB.out _; exact qB aD.out) Try.underlying28 rfl (by kernel_rfl)) rfl ?_
     exact ⟨_, _, _, _, by first | rfl | (simp [errW_none, errW_some] <;> rfl) | (simp only [← fJ]; first | rfl | (simp [errW_none, errW_some] <;> rfl)) | (simp [*, errW_none, errW_some] <;> rfl), by exact qR (Kd.R_mono (Kd.R_far (p := ⟨aQ, 4, none⟩) (Kd.R_far (p := ⟨aQ, 3, none⟩) (Kd.R_far (p := ⟨aQ, 2, none⟩) (Kd.R_far (p := ⟨aQ, 1, none⟩) (Kd.R_far (p := ⟨aQ, 0, none⟩) (Kd.R_far (p := ⟨aN, 4, none⟩) (Kd.R_types (Kd.R_types aI.out aA.out (by decide)) aD.out (by decide)) (fun _ hk => hk.1.2) (.int .i64 ji90)) (fun _ hk => hk.2) (.slice dI bD.length dJ)) (fun _ hk => hk.2) (.slice dM aU.length dN)) (fun _ hk => hk.2) (.slice dS bE.length dT)) (fun _ hk => hk.2) (.slice eC aV.length eD)) (fun _ hk => hk.2) (.int .i64 ji90)) (fun _ hk => ⟨hk.1.1.1, ⟨hk.1.1.2.1, hk.1.1.2.2⟩⟩)), by exact qR (Kd.R_mono (Kd.R_far (p := ⟨aQ, 4, none⟩) (Kd.R_far (p := ⟨aQ, 3, none⟩) (Kd.R_far (p := ⟨aQ, 2, none⟩) (Kd.R_far (p := ⟨aQ, 1, none⟩) (Kd.R_far (p := ⟨aQ, 0, none⟩) (Kd.R_far (p := ⟨aN, 4, none⟩) (Kd.R_types (Kd.R_types aH.out aA.out (by decide)) aD.out (by decide)) (fun _ hk => hk.1.2) (.int .i64 ji90)) (fun _ hk => hk.2) (.slice dI bD.length dJ)) (fun _ hk => hk.2) (.slice dM aU.length dN)) (fun _ hk => hk.2) (.slice dS bE.length dT)) (fun _ hk => hk.2) (.slice eC aV.length eD)) (fun _ hk => hk.2) (.int .i64 ji90)) (fun _ hk => ⟨hk.1.1.1, ⟨hk.1.1.2.1, hk.1.1.2.2⟩⟩)), by exact qR (Kd.R_mono (Kd.R_far (p := ⟨aQ, 4, none⟩) (Kd.R_far (p := ⟨aQ, 3, none⟩) (Kd.R_far (p := ⟨aQ, 2, none⟩) (Kd.R_far (p := ⟨aQ, 1, none⟩) (Kd.R_far (p := ⟨aQ, 0, none⟩) (Kd.R_far (p := ⟨aN, 4, none⟩) (Kd.R_types (Kd.R_types aJ.out aA.out (by decide)) aD.out (by decide)) (fun _ hk => hk.1.2) (.int .i64 ji90)) (fun _ hk => hk.2) (.slice dI bD.length dJ)) (fun _ hk => hk.2) (.slice dM aU.length dN)) (fun _ hk => hk.2) (.slice dS bE.length dT)) (fun _ hk => hk.2) (.slice eC aV.length eD)) (fun _ hk => hk.2) (.int .i64 ji90)) (fun _ hk => ⟨hk.1.1.1, ⟨hk.1.1.2.1, hk.1.1.2.2⟩⟩)), by exact qR (Kd.R_mono (Kd.R_far (p := ⟨aQ, 4, none⟩) (Kd.R_far (p := ⟨aQ, 3, none⟩) (Kd.R_far (p := ⟨aQ, 2, none⟩) (Kd.R_far (p := ⟨aQ, 1, none⟩) (Kd.R_far (p := ⟨aQ, 0, none⟩) (Kd.R_far (p := ⟨aN, 4, none⟩) (Kd.R_types (Kd.R_types aG.out aA.out (by decide)) aD.out (by decide)) (fun _ hk => hk.1.2) (.int .i64 ji90)) (fun _ hk => hk.2) (.slice dI bD.length dJ)) (fun _ hk => hk.2) (.slice dM aU.length dN)) (fun _ hk => hk.2) (.slice dS bE.length dT)) (fun _ hk => hk.2) (.slice eC aV.length eD)) (fun _ hk => hk.2) (.int .i64 ji90)) (fun _ hk => ⟨hk.1.1.1, ⟨hk.1.1.2.1, hk.1.1.2.2⟩⟩)), by repeat (first | (with_reducible first | exact HB.out | apply below_alloc | apply pw_below_drewN | apply below_drew1 | refine below_set ?_ cO.out | refine below_set ?_ cP.out | refine below_set ?_ dE.out) | exact HB.out)⟩
    rw [if_pos c13] at H
    have hL : decide (aT < (wrap64 (Int.tdiv (wrap64 ((wrap64 ((aP.length : Int) + aE)) - 1)) aE))) = true := decide_eq_true c13
    clear c13
    obtain ⟨ji14, eE⟩ : ∃ j_ : Int, (mx (wrap64 ((wrap64 (aT + 1)) * aE)) dF) = j_ := ⟨_, rfl⟩
    replace H : ((standbyref56_Size.f k1 aP aZ aE aK aM aT).bind fun t186 => ((standbyref56_finish.f k1 aP aZ aE aK aM (ji14) t186).bind fun cN => (if cN.2 = true then ((some (([wrap64 ((wrap64 (aT + 1)) * aE)] : List Int) : List Int)).bind fun y189 => (if bD.length + y189.length < 17592186044416 then ((some (([ji14] : List Int) : List Int)).bind fun y195 => (if aU.length + y195.length < 17592186044416 then (standbyref56_Plan.j1 k1 (wrap64 (Int.tdiv (wrap64 ((wrap64 ((aP.length : Int) + aE)) - 1)) aE)) cN.1 bM aT (wrap64 ((wrap64 (aT + 1)) * aE)) (wrap64 ((wrap64 (cN.1 + aK)) + aM)) aP aZ aE aK aM (bD ++ y189) (aU ++ y195) bE aV bC) else (none))) else (none))) else (some (([] : List Int), ([] : List Int), ([] : List Int), ([] : List Int), 0, 21))))) = some (r1, r2, r3, r4, r5, r6) := by first | (rw [eE] at H; exact H) | (simp only [eE] at H ⊢; exact H)
    have lW : (if (wrap64 ((wrap64 (aT + 1)) * aE)) < dF then dF else (wrap64 ((wrap64 (aT + 1)) * aE))) = ji14 := eE
    replace H := Option.bind_eq_some_iff.mp H
    obtain ⟨t186, A150, H⟩ := H
    replace H : ((standbyref56_finish.f k1 aP aZ aE aK aM (ji14) t186).bind fun cN => (if cN.2 = true then ((some (([wrap64 ((wrap64 (aT + 1)) * aE)] : List Int) : List Int)).bind fun y189 => (if bD.length + y189.length < 17592186044416 then ((some (([ji14] : List Int) : List Int)).bind fun y195 => (if aU.length + y195.length < 17592186044416 then (standbyref56_Plan.j1 k1 (wrap64 (Int.tdiv (wrap64 ((wrap64 ((aP.length : Int) + aE)) - 1)) aE)) cN.1 bM aT (wrap64 ((wrap64 (aT + 1)) * aE)) (wrap64 ((wrap64 (cN.1 + aK)) + aM)) aP aZ aE aK aM (bD ++ y189) (aU ++ y195) bE aV bC) else (none))) else (none))) else (some (([] : List Int), ([] : List Int), ([] : List Int), ([] : List Int), 0, 21)))) = some (r1, r2, r3, r4, r5, r6) := H
    have A15 := Aside0.mk A150
    clear A150
    replace H := Option.bind_eq_some_iff.mp H
    obtain ⟨⟨t187, t188⟩, A160, H⟩ := H
    replace H : (if t188 = true then ((some (([wrap64 ((wrap64 (aT + 1)) * aE)] : List Int) : List Int)).bind fun y189 => (if bD.length + y189.length < 17592186044416 then ((some (([ji14] : List Int) : List Int)).bind fun y195 => (if aU.length + y195.length < 17592186044416 then (standbyref56_Plan.j1 k1 (wrap64 (Int.tdiv (wrap64 ((wrap64 ((aP.length : Int) + aE)) - 1)) aE)) t187 bM aT (wrap64 ((wrap64 (aT + 1)) * aE)) (wrap64 ((wrap64 (t187 + aK)) + aM)) aP aZ aE aK aM (bD ++ y189) (aU ++ y195) bE aV bC) else (none))) else (none))) else (some (([] : List Int), ([] : List Int), ([] : List Int), ([] : List Int), 0, 21))) = some (r1, r2, r3, r4, r5, r6) := H
    have A16 := Aside0.mk A160
    clear A160
    by_cases c17 : t188 = true
    case neg =>
     replace c17 := Bool.eq_false_iff.mpr c17
     subst c17
     have H1 : (some (([] : List Int), ([] : List Int), ([] : List Int), ([] : List Int), 0, 21)) = some (r1, r2, r3, r4, r5, r6) := by rw [if_neg (show ¬ (false = true) by decide)] at H; exact H
     clear H
     have H := H1
     clear H1
     simp only [Option.some.injEq, Prod.mk.injEq] at H
     obtain ⟨rfl, rfl, rfl, rfl, rfl, rfl⟩ := H
     have lX := dO.out
     have lY := dP.out
     have lZ := bY.out
     have mA := cK.out
     have mB : wr.cell? ⟨bA, 0, none⟩ = some (.slice bN aP.length bO) := (blk_cell aC.out 0).trans rfl
     have mC : wr.cell? ⟨bA, 1, none⟩ = some (.slice bP aZ.length bQ) := (blk_cell aC.out 1).trans rfl
     have mD : wr.cell? ⟨bA, 2, none⟩ = some (.int .i64 aE) := (blk_cell aC.out 2).trans rfl
     have mE : wr.cell? ⟨bA, 3, none⟩ = some (.int .i64 aK) := (blk_cell aC.out 3).trans rfl
     have mF : wr.cell? ⟨bA, 4, none⟩ = some (.int .i64 aM) := (blk_cell aC.out 4).trans rfl
     have mG := blk_frozen aC.out 0
     have mH := blk_frozen aC.out 1
     have mI := blk_frozen aC.out 2
     have mJ := blk_frozen aC.out 3
     have mK := blk_frozen aC.out 4
     try go_wp2
     have n0_ := Aside0.mk (Kd.R_drew aI.out)
     have n1_ := Aside0.mk (Kd.R_drew aH.out)
     have n2_ := Aside0.mk (Kd.R_drew aJ.out)
     have n3_ := Aside0.mk (Kd.R_drew aG.out)
     have n4_ := Aside0.mk (blk_drew aC.out)
     have n5_ := Aside0.mk (blk_drew aD.out)
     have n6_ := Aside0.mk (blk_drew aA.out)
     have n7_ := Aside0.mk (below_drew1 HB.out)
     clear aI aH aJ aG aC aD aA HB
     have aI := n0_
     have aH := n1_
     have aJ := n2_
     have aG := n3_
     have aC := n4_
     have aD := n5_
     have aA := n6_
     have HB := n7_
     clear n0_ n1_ n2_ n3_ n4_ n5_ n6_ n7_
     refine start_ (n := 11) (S := fun w' => w'.cell? ⟨bA, 0, none⟩ = some (.slice bN aP.length bO) ∧ w'.cell? ⟨bA, 1, none⟩ = some (.slice bP aZ.length bQ) ∧ w'.cell? ⟨bA, 2, none⟩ = some (.int .i64 aE) ∧ w'.cell? ⟨bA, 3, none⟩ = some (.int .i64 aK) ∧ w'.cell? ⟨bA, 4, none⟩ = some (.int .i64 aM)) (ds := []) #[false, false, false, false, false, false, false, false, false, false, false] (by kernel_rfl) rfl rfl ⟨(blk_cell aC.out 0).trans rfl, (blk_cell aC.out 1).trans rfl, (blk_cell aC.out 2).trans rfl, (blk_cell aC.out 3).trans rfl, (blk_cell aC.out 4).trans rfl⟩ (fun hHeld => ?_); refine with_tabW standbyref56_Plan.tab12 standbyref56_Plan.bits12 (fun HT_ HW_ => ?_)
     generalize wr.drew = w84 at aI aH aJ aG aC aD aA HB hHeld ⊢
     refine pS (i := 1) (N := some 46) #[false, true, false, false, false, false, false, false, false, false, false] rfl rfl HT_.out ?_
     refine pS (i := 3) (N := some 48) #[false, true, false, true, false, false, false, false, false, false, false] rfl rfl HT_.out ?_
     refine take_ (i := 0) (N := some 45) (v := ?_) (a' := ?_) #[true, true, false, true, false, false, false, false, false, false, false] rfl rfl (take_ofW HT_.out HW_.out (by kernel_rfl)) (fun _ _ _ h => h) (Or.inl ⟨by rfl, ?_⟩) hHeld ?_ ?_; rotate_left
     ·rintro w' ⟨s0, s1, s2, s3, s4⟩
      go_simp
      with_reducible rfl
     rotate_left
     ·simp only [Act.put, List.setIfInBounds_toArray, List.set_cons_zero, List.set_cons_succ, i64_w, i32_w]
      rfl
     refine take_ (i := 2) (N := some 47) (v := ?_) (a' := ?_) #[true, true, true, true, false, false, false, false, false, false, false] rfl rfl (take_ofW HT_.out HW_.out (by kernel_rfl)) (fun _ _ _ h => h) (Or.inl ⟨by rfl, ?_⟩) hHeld ?_ ?_; rotate_left
     ·rintro w' ⟨s0, s1, s2, s3, s4⟩
      go_simp
      with_reducible rfl
     rotate_left
     ·simp only [Act.put, List.setIfInBounds_toArray, List.set_cons_zero, List.set_cons_succ, i64_w, i32_w]
      rfl
     refine one_ (i := 4) (N := some 49) #[true, true, true, true, true, false, false, false, false, false, false] rfl rfl (one_of HT_.out (by kernel_rfl)) (by decide) (fun K hK => ?_)
     refine goes_ Try.func39 (by kernel_rfl) rfl #[.agg #[.slice bN aP.length bO, .slice bP aZ.length bQ, .int .i64 aE, .int .i64 aK, .int .i64 aM], .int .i64 aT] (by rfl) rfl rfl (by (try simp only [List.map_toArray, List.map_cons, List.map_nil]); first | done | rfl | (simp only [List.length_drop, List.length_take]; rfl)) ?_
     with_reducible refine (standbyref56_Size.calls k1 _ _ aP _ _ aZ aE aK aM aT t186 _ ?side1 ?side2 ?side3 ?side4 A15.out).mono ?_
     (case side1 => exact qC dW.out HB.out)
     (case side2 => exact dX.out)
     (case side3 => exact qC dY.out HB.out)
     (case side4 => exact dZ.out)
     rintro e w85 ⟨rfl, hb⟩
     refine ⟨_, rfl, ?_⟩
     have n0_ := Aside0.mk (Kd.R_below (qR aI.out) hb)
     have n1_ := Aside0.mk (Kd.R_below (qR aH.out) hb)
     have n2_ := Aside0.mk (Kd.R_below (qR aJ.out) hb)
     have n3_ := Aside0.mk (Kd.R_below (qR aG.out) hb)
     have n4_ := Aside0.mk (blk_below (qB aC.out) hb)
     have n5_ := Aside0.mk (blk_below (qB aD.out) hb)
     have n6_ := Aside0.mk (blk_below (qB aA.out) hb)
     have n7_ := Aside0.mk (below_step (qW HB.out) hb)
     clear aI aH aJ aG aC aD aA HB
     have aI := n0_
     have aH := n1_
     have aJ := n2_
     have aG := n3_
     have aC := n4_
     have aD := n5_
     have aA := n6_
     have HB := n7_
     clear n0_ n1_ n2_ n3_ n4_ n5_ n6_ n7_
     (try clear hb); (try clear hb2); (try clear hk); (try clear hi)
     refine hK.out _ _ ⟨(blk_cell aC.out 0).trans rfl, (blk_cell aC.out 1).trans rfl, (blk_cell aC.out 2).trans rfl, (blk_cell aC.out 3).trans rfl, (blk_cell aC.out 4).trans rfl⟩ (fun hHeld => ?_); clear hK K
     refine norm_ (a' := ?_) ?_ ?_; rotate_left
     ·show Act.put _ (some 49) _ = _
      simp only [Act.put, List.setIfInBounds_toArray, List.set_cons_zero, List.set_cons_succ, i64_w, i32_w]
      rfl
     refine one_ (i := 5) (N := some 50) #[true, true, true, true, true, true, false, false, false, false, false] rfl rfl (one_of HT_.out (by kernel_rfl)) (by decide) (fun K hK => ?_)
     refine goes_ Try.func38 (by kernel_rfl) rfl #[.agg #[.slice bN aP.length bO, .slice bP aZ.length bQ, .int .i64 aE, .int .i64 aK, .int .i64 aM], .int .i64 ji14, .int .i64 t186] (by rfl) rfl rfl (by (try simp only [List.map_toArray, List.map_cons, List.map_nil]); first | done | (simp only [eE]; rfl) | rfl | (simp only [List.length_drop, List.length_take]; rfl)) ?_
     with_reducible refine (standbyref56_finish.calls k1 _ _ aP _ _ aZ aE aK aM ji14 t186 t187 false _ ?side1 ?side2 ?side3 ?side4 A16.out).mono ?_
     (case side1 => exact qC dW.out HB.out)
     (case side2 => exact dX.out)
     (case side3 => exact qC dY.out HB.out)
     (case side4 => exact dZ.out)
     rintro e w86 ⟨rfl, hb⟩
     refine ⟨_, rfl, ?_⟩
     have n0_ := Aside0.mk (Kd.R_below (qR aI.out) hb)
     have n1_ := Aside0.mk (Kd.R_below (qR aH.out) hb)
     have n2_ := Aside0.mk (Kd.R_below (qR aJ.out) hb)
     have n3_ := Aside0.mk (Kd.R_below (qR aG.out) hb)
     have n4_ := Aside0.mk (blk_below (qB aC.out) hb)
     have n5_ := Aside0.mk (blk_below (qB aD.out) hb)
     have n6_ := Aside0.mk (blk_below (qB aA.out) hb)
     have n7_ := Aside0.mk (below_step (qW HB.out) hb)
     clear aI aH aJ aG aC aD aA HB
     have aI := n0_
     have aH := n1_
     have aJ := n2_
     have aG := n3_
     have aC := n4_
     have aD := n5_
     have aA := n6_
     have HB := n7_
     clear n0_ n1_ n2_ n3_ n4_ n5_ n6_ n7_
     (try clear hb); (try clear hb2); (try clear hk); (try clear hi)
     refine hK.out _ _ ⟨(blk_cell aC.out 0).trans rfl, (blk_cell aC.out 1).trans rfl, (blk_cell aC.out 2).trans rfl, (blk_cell aC.out 3).trans rfl, (blk_cell aC.out 4).trans rfl⟩ (fun hHeld => ?_); clear hK K
     refine norm_ (a' := ?_) ?_ ?_; rotate_left
     ·show Act.put _ (some 50) _ = _
      simp only [Act.put, List.setIfInBounds_toArray, List.set_cons_zero, List.set_cons_succ, i64_w, i32_w]
      rfl
     refine pS (i := 6) (N := some 44) #[true, true, true, true, true, true, true, false, false, false, false] rfl rfl HT_.out ?_
     refine pS (i := 7) (N := some 51) #[true, true, true, true, true, true, true, true, false, false, false] rfl rfl HT_.out ?_
     refine pS (i := 8) (N := some 52) #[true, true, true, true, true, true, true, true, true, false, false] rfl rfl HT_.out ?_
     refine pS (i := 9) (N := some 12) #[true, true, true, true, true, true, true, true, true, true, false] rfl rfl HT_.out ?_
     refine pS (i := 10) (N := some 13) #[true, true, true, true, true, true, true, true, true, true, true] rfl rfl HT_.out ?_
     refine done_ (done_of HT_.out (by kernel_rfl)) ?_
     have mL := cB.out
     have mM := cT.out
     have mN : w86.cell? ⟨aQ, 0, none⟩ = some (.slice none 0 0) := (blk_cell aD.out 0).trans rfl
     have mO : w86.cell? ⟨aQ, 1, none⟩ = some (.slice none 0 0) := (blk_cell aD.out 1).trans rfl
     have mP : w86.cell? ⟨aQ, 2, none⟩ = some (.slice none 0 0) := (blk_cell aD.out 2).trans rfl
     have mQ : w86.cell? ⟨aQ, 3, none⟩ = some (.slice none 0 0) := (blk_cell aD.out 3).trans rfl
     have mR : w86.cell? ⟨aQ, 4, none⟩ = some (.int .i64 bL) := (blk_cell aD.out 4).trans rfl
     have mS := blk_frozen aD.out 0
     have mT := blk_frozen aD.out 1
     have mU := blk_frozen aD.out 2
     have mV := blk_frozen aD.out 3
     have mW := blk_frozen aD.out 4
     try go_wp2
     refine bodyPost_ret (results_ct rfl _ _ aQ 28 #[.slice none 0 0, .slice none 0 0, .slice none 0 0, .slice none 0 0, .int .i64 0] (0, 0) _ rfl (by (with_reducible repeat (first | refine blk_drewN ?_ _ | refine blk_drew ?_ | refine blk_alloc ?_ _)); refine blk_put (cs := #[.slice none 0 0, .slice none 0 0, .slice none 0 0, .slice none 0 0, .int .i64 bL]) ?_ 4 _ rfl; (with_reducible repeat (first | refine blk_drewN ?_ _ | refine blk_drew ?_ | refine blk_alloc ?_ _)); refine blk_put (cs := #[.slice none 0 0, .slice none 0 0, .slice none 0 0, .slice none 0 0, .int .i64 bL]) ?_ 3 _ rfl; (with_reducible repeat (first | refine blk_drewN ?_ _ | refine blk_drew ?_ | refine blk_alloc ?_ _)); refine blk_put (cs := #[.slice none 0 0, .slice none 0 0, .slice none 0 0, .slice none 0 0, .int .i64 bL]) ?_ 2 _ rfl; (with_reducible repeat (first | refine blk_drewN ?_ _ | refine blk_drew ?_ | refine blk_alloc ?_ _)); refine blk_put (cs := #[.slice none 0 0, .slice none 0 0, .slice none 0 0, .slice none 0 0, .int .i64 bL]) ?_ 1 _ rfl; (with_reducible repeat (first | refine blk_drewN ?_ _ | refine blk_drew ?_ | refine blk_alloc ?_ _)); refine blk_put (cs := #[.slice none 0 0, .slice none 0 0, .slice none 0 0, .slice none 0 0, .int .i64 bL]) ?_ 0 _ rfl; exact qB aD.out) Try.underlying28 rfl (by kernel_rfl)) rfl ?_
     exact ⟨_, _, _, _, by first | rfl | (simp [errW_none, errW_some] <;> rfl) | (simp only [← eE]; first | rfl | (simp [errW_none, errW_some] <;> rfl)) | (simp [*, errW_none, errW_some] <;> rfl), by first | exact Kd.R_nil _ _ _ _ _ | exact Kd.N_nil _ _ _ _ _ | exact Kd.V_nil _ _ _ _ _ | exact Kd.Q_nil _ _ _ _ _ | exact Kd.S_nil _ _ _ _ _, by first | exact Kd.R_nil _ _ _ _ _ | exact Kd.N_nil _ _ _ _ _ | exact Kd.V_nil _ _ _ _ _ | exact Kd.Q_nil _ _ _ _ _ | exact Kd.S_nil _ _ _ _ _, by first | exact Kd.R_nil _ _ _ _ _ | exact Kd.N_nil _ _ _ _ _ | exact Kd.V_nil _ _ _ _ _ | exact Kd.Q_nil _ _ _ _ _ | exact Kd.S_nil _ _ _ _ _, by first | exact Kd.R_nil _ _ _ _ _ | exact Kd.N_nil _ _ _ _ _ | exact Kd.V_nil _ _ _ _ _ | exact Kd.Q_nil _ _ _ _ _ | exact Kd.S_nil _ _ _ _ _, by repeat (first | (with_reducible first | exact HB.out | apply below_alloc | apply pw_below_drewN | apply below_drew1 | refine below_set ?_ cO.out | refine below_set ?_ cP.out | refine below_set ?_ dE.out) | exact HB.out)⟩
    subst c17
    have H1 : ((some (([wrap64 ((wrap64 (aT + 1)) * aE)] : List Int) : List Int)).bind fun y189 => (if bD.length + y189.length < 17592186044416 then ((some (([ji14] : List Int) : List Int)).bind fun y195 => (if aU.length + y195.length < 17592186044416 then (standbyref56_Plan.j1 k1 (wrap64 (Int.tdiv (wrap64 ((wrap64 ((aP.length : Int) + aE)) - 1)) aE)) t187 bM aT (wrap64 ((wrap64 (aT + 1)) * aE)) (wrap64 ((wrap64 (t187 + aK)) + aM)) aP aZ aE aK aM (bD ++ y189) (aU ++ y195) bE aV bC) else (none))) else (none))) = some (r1, r2, r3, r4, r5, r6) := by rw [if_pos rfl] at H; exact H
    clear H
    have H := H1
    clear H1
    have fM := Aside0.mk H
    clear H
    have mX := dO.out
    have mY := dP.out
    have mZ := bY.out
    have nA := cK.out
    have nB : wr.cell? ⟨bA, 0, none⟩ = some (.slice bN aP.length bO) := (blk_cell aC.out 0).trans rfl
    have nC : wr.cell? ⟨bA, 1, none⟩ = some (.slice bP aZ.length bQ) := (blk_cell aC.out 1).trans rfl
    have nD : wr.cell? ⟨bA, 2, none⟩ = some (.int .i64 aE) := (blk_cell aC.out 2).trans rfl
    have nE : wr.cell? ⟨bA, 3, none⟩ = some (.int .i64 aK) := (blk_cell aC.out 3).trans rfl
    have nF : wr.cell? ⟨bA, 4, none⟩ = some (.int .i64 aM) := (blk_cell aC.out 4).trans rfl
    have nG := blk_frozen aC.out 0
    have nH := blk_frozen aC.out 1
    have nI := blk_frozen aC.out 2
    have nJ := blk_frozen aC.out 3
    have nK := blk_frozen aC.out 4
    try go_wp2
    have n0_ := Aside0.mk (Kd.R_drew aI.out)
    have n1_ := Aside0.mk (Kd.R_drew aH.out)
    have n2_ := Aside0.mk (Kd.R_drew aJ.out)
    have n3_ := Aside0.mk (Kd.R_drew aG.out)
    have n4_ := Aside0.mk (blk_drew aC.out)
    have n5_ := Aside0.mk (blk_drew aD.out)
    have n6_ := Aside0.mk (blk_drew aA.out)
    have n7_ := Aside0.mk (below_drew1 HB.out)
    clear aI aH aJ aG aC aD aA HB
    have aI := n0_
    have aH := n1_
    have aJ := n2_
    have aG := n3_
    have aC := n4_
    have aD := n5_
    have aA := n6_
    have HB := n7_
    clear n0_ n1_ n2_ n3_ n4_ n5_ n6_ n7_
    refine start_ (n := 11) (S := fun w' => w'.cell? ⟨bA, 0, none⟩ = some (.slice bN aP.length bO) ∧ w'.cell? ⟨bA, 1, none⟩ = some (.slice bP aZ.length bQ) ∧ w'.cell? ⟨bA, 2, none⟩ = some (.int .i64 aE) ∧ w'.cell? ⟨bA, 3, none⟩ = some (.int .i64 aK) ∧ w'.cell? ⟨bA, 4, none⟩ = some (.int .i64 aM)) (ds := []) #[false, false, false, false, false, false, false, false, false, false, false] (by kernel_rfl) rfl rfl ⟨(blk_cell aC.out 0).trans rfl, (blk_cell aC.out 1).trans rfl, (blk_cell aC.out 2).trans rfl, (blk_cell aC.out 3).trans rfl, (blk_cell aC.out 4).trans rfl⟩ (fun hHeld => ?_); refine with_tabW standbyref56_Plan.tab12 standbyref56_Plan.bits12 (fun HT_ HW_ => ?_)
    generalize wr.drew = w22 at aI aH aJ aG aC aD aA HB hHeld ⊢
    refine pS (i := 1) (N := some 46) #[false, true, false, false, false, false, false, false, false, false, false] rfl rfl HT_.out ?_
    refine pS (i := 3) (N := some 48) #[false, true, false, true, false, false, false, false, false, false, false] rfl rfl HT_.out ?_
    refine take_ (i := 0) (N := some 45) (v := ?_) (a' := ?_) #[true, true, false, true, false, false, false, false, false, false, false] rfl rfl (take_ofW HT_.out HW_.out (by kernel_rfl)) (fun _ _ _ h => h) (Or.inl ⟨by rfl, ?_⟩) hHeld ?_ ?_; rotate_left
    ·rintro w' ⟨s0, s1, s2, s3, s4⟩
     go_simp
     with_reducible rfl
    rotate_left
    ·simp only [Act.put, List.setIfInBounds_toArray, List.set_cons_zero, List.set_cons_succ, i64_w, i32_w]
     rfl
    refine take_ (i := 2) (N := some 47) (v := ?_) (a' := ?_) #[true, true, true, true, false, false, false, false, false, false, false] rfl rfl (take_ofW HT_.out HW_.out (by kernel_rfl)) (fun _ _ _ h => h) (Or.inl ⟨by rfl, ?_⟩) hHeld ?_ ?_; rotate_left
    ·rintro w' ⟨s0, s1, s2, s3, s4⟩
     go_simp
     with_reducible rfl
    rotate_left
    ·simp only [Act.put, List.setIfInBounds_toArray, List.set_cons_zero, List.set_cons_succ, i64_w, i32_w]
     rfl
    refine one_ (i := 4) (N := some 49) #[true, true, true, true, true, false, false, false, false, false, false] rfl rfl (one_of HT_.out (by kernel_rfl)) (by decide) (fun K hK => ?_)
    refine goes_ Try.func39 (by kernel_rfl) rfl #[.agg #[.slice bN aP.length bO, .slice bP aZ.length bQ, .int .i64 aE, .int .i64 aK, .int .i64 aM], .int .i64 aT] (by rfl) rfl rfl (by (try simp only [List.map_toArray, List.map_cons, List.map_nil]); first | done | rfl | (simp only [List.length_drop, List.length_take]; rfl)) ?_
    with_reducible refine (standbyref56_Size.calls k1 _ _ aP _ _ aZ aE aK aM aT t186 _ ?side1 ?side2 ?side3 ?side4 A15.out).mono ?_
    (case side1 => exact qC dW.out HB.out)
    (case side2 => exact dX.out)
    (case side3 => exact qC dY.out HB.out)
    (case side4 => exact dZ.out)
    rintro e w23 ⟨rfl, hb⟩
    refine ⟨_, rfl, ?_⟩
    have n0_ := Aside0.mk (Kd.R_below (qR aI.out) hb)
    have n1_ := Aside0.mk (Kd.R_below (qR aH.out) hb)
    have n2_ := Aside0.mk (Kd.R_below (qR aJ.out) hb)
    have n3_ := Aside0.mk (Kd.R_below (qR aG.out) hb)
    have n4_ := Aside0.mk (blk_below (qB aC.out) hb)
    have n5_ := Aside0.mk (blk_below (qB aD.out) hb)
    have n6_ := Aside0.mk (blk_below (qB aA.out) hb)
    have n7_ := Aside0.mk (below_step (qW HB.out) hb)
    clear aI aH aJ aG aC aD aA HB
    have aI := n0_
    have aH := n1_
    have aJ := n2_
    have aG := n3_
    have aC := n4_
    have aD := n5_
    have aA := n6_
    have HB := n7_
    clear n0_ n1_ n2_ n3_ n4_ n5_ n6_ n7_
    (try clear hb); (try clear hb2); (try clear hk); (try clear hi)
    refine hK.out _ _ ⟨(blk_cell aC.out 0).trans rfl, (blk_cell aC.out 1).trans rfl, (blk_cell aC.out 2).trans rfl, (blk_cell aC.out 3).trans rfl, (blk_cell aC.out 4).trans rfl⟩ (fun hHeld => ?_); clear hK K
    refine norm_ (a' := ?_) ?_ ?_; rotate_left
    ·show Act.put _ (some 49) _ = _
     simp only [Act.put, List.setIfInBounds_toArray, List.set_cons_zero, List.set_cons_succ, i64_w, i32_w]
     rfl
    refine one_ (i := 5) (N := some 50) #[true, true, true, true, true, true, false, false, false, false, false] rfl rfl (one_of HT_.out (by kernel_rfl)) (by decide) (fun K hK => ?_)
    refine goes_ Try.func38 (by kernel_rfl) rfl #[.agg #[.slice bN aP.length bO, .slice bP aZ.length bQ, .int .i64 aE, .int .i64 aK, .int .i64 aM], .int .i64 ji14, .int .i64 t186] (by rfl) rfl rfl (by (try simp only [List.map_toArray, List.map_cons, List.map_nil]); first | done | (simp only [eE]; rfl) | rfl | (simp only [List.length_drop, List.length_take]; rfl)) ?_
    with_reducible refine (standbyref56_finish.calls k1 _ _ aP _ _ aZ aE aK aM ji14 t186 t187 true _ ?side1 ?side2 ?side3 ?side4 A16.out).mono ?_
    (case side1 => exact qC dW.out HB.out)
    (case side2 => exact dX.out)
    (case side3 => exact qC dY.out HB.out)
    (case side4 => exact dZ.out)
    rintro e w24 ⟨rfl, hb⟩
    refine ⟨_, rfl, ?_⟩
    have n0_ := Aside0.mk (Kd.R_below (qR aI.out) hb)
    have n1_ := Aside0.mk (Kd.R_below (qR aH.out) hb)
    have n2_ := Aside0.mk (Kd.R_below (qR aJ.out) hb)
    have n3_ := Aside0.mk (Kd.R_below (qR aG.out) hb)
    have n4_ := Aside0.mk (blk_below (qB aC.out) hb)
    have n5_ := Aside0.mk (blk_below (qB aD.out) hb)
    have n6_ := Aside0.mk (blk_below (qB aA.out) hb)
    have n7_ := Aside0.mk (below_step (qW HB.out) hb)
    clear aI aH aJ aG aC aD aA HB
    have aI := n0_
    have aH := n1_
    have aJ := n2_
    have aG := n3_
    have aC := n4_
    have aD := n5_
    have aA := n6_
    have HB := n7_
    clear n0_ n1_ n2_ n3_ n4_ n5_ n6_ n7_
    (try clear hb); (try clear hb2); (try clear hk); (try clear hi)
    refine hK.out _ _ ⟨(blk_cell aC.out 0).trans rfl, (blk_cell aC.out 1).trans rfl, (blk_cell aC.out 2).trans rfl, (blk_cell aC.out 3).trans rfl, (blk_cell aC.out 4).trans rfl⟩ (fun hHeld => ?_); clear hK K
    refine norm_ (a' := ?_) ?_ ?_; rotate_left
    ·show Act.put _ (some 50) _ = _
     simp only [Act.put, List.setIfInBounds_toArray, List.set_cons_zero, List.set_cons_succ, i64_w, i32_w]
     rfl
    refine pS (i := 6) (N := some 44) #[true, true, true, true, true, true, true, false, false, false, false] rfl rfl HT_.out ?_
    refine pS (i := 7) (N := some 51) #[true, true, true, true, true, true, true, true, false, false, false] rfl rfl HT_.out ?_
    refine pS (i := 8) (N := some 52) #[true, true, true, true, true, true, true, true, true, false, false] rfl rfl HT_.out ?_
    refine pS (i := 9) (N := some 12) #[true, true, true, true, true, true, true, true, true, true, false] rfl rfl HT_.out ?_
    refine pS (i := 10) (N := some 13) #[true, true, true, true, true, true, true, true, true, true, true] rfl rfl HT_.out ?_
    refine done_ (done_of HT_.out (by kernel_rfl)) ?_
    have nL : w24.cell? ⟨bA, 0, none⟩ = some (.slice bN aP.length bO) := (blk_cell aC.out 0).trans rfl
    have nM : w24.cell? ⟨bA, 1, none⟩ = some (.slice bP aZ.length bQ) := (blk_cell aC.out 1).trans rfl
    have nN : w24.cell? ⟨bA, 2, none⟩ = some (.int .i64 aE) := (blk_cell aC.out 2).trans rfl
    have nO : w24.cell? ⟨bA, 3, none⟩ = some (.int .i64 aK) := (blk_cell aC.out 3).trans rfl
    have nP : w24.cell? ⟨bA, 4, none⟩ = some (.int .i64 aM) := (blk_cell aC.out 4).trans rfl
    have nQ := blk_frozen aC.out 0
    have nR := blk_frozen aC.out 1
    have nS := blk_frozen aC.out 2
    have nT := blk_frozen aC.out 3
    have nU := blk_frozen aC.out 4
    go_upto_region 17 with (fail)
    go_cut [] (fun wc => ∃ (kq : Nat) (bZ : List Int) (cA : List Int) (aW : Value) (aX : Value), Aside0 (standbyref56_Plan.j1 kq (wrap64 (Int.tdiv (wrap64 ((wrap64 ((aP.length : Int) + aE)) - 1)) aE)) t187 bM aT (wrap64 ((wrap64 (aT + 1)) * aE)) (wrap64 ((wrap64 (t187 + aK)) + aM)) aP aZ aE aK aM bZ cA bE aV bC = some (r1, r2, r3, r4, r5, r6)) ∧ Aside0 (kq ≤ k1) ∧ Aside0 (Kd.R (Kd.int .i64) 3 wc w.heap.size (fun k_ => some k_ ≠ (aX : Value).ownBlock ∧ some k_ ≠ (aY : Value).ownBlock ∧ some k_ ≠ (bB : Value).ownBlock) aW bZ) ∧ Aside0 (Kd.R (Kd.int .i64) 3 wc w.heap.size (fun k_ => some k_ ≠ (aW : Value).ownBlock ∧ some k_ ≠ (aY : Value).ownBlock ∧ some k_ ≠ (bB : Value).ownBlock) aX cA) ∧ Aside0 (Kd.R (Kd.int .i64) 3 wc w.heap.size (fun k_ => some k_ ≠ (aW : Value).ownBlock ∧ some k_ ≠ (aX : Value).ownBlock ∧ some k_ ≠ (bB : Value).ownBlock) aY bE) ∧ Aside0 (Kd.R (Kd.int .i64) 3 wc w.heap.size (fun k_ => some k_ ≠ (aW : Value).ownBlock ∧ some k_ ≠ (aX : Value).ownBlock ∧ some k_ ≠ (aY : Value).ownBlock) bB aV) ∧ Aside0 (wc.heap[bA]? = some (.cells #[(.slice bN aP.length bO), (.slice bP aZ.length bQ), .int .i64 aE, .int .i64 aK, .int .i64 aM] 24 (0, 0))) ∧ Aside0 (wc.heap[aQ]? = some (.cells #[(.slice none 0 0), (.slice none 0 0), (.slice none 0 0), (.slice none 0 0), .int .i64 bL] 28 (0, 0))) ∧ Aside0 (wc.heap[aN]? = some (.cells #[aW, aX, aY, bB, .int .i64 bC] 28 (0, 0))) ∧ Aside0 (Below w.heap.size w wc))
    case first =>
     have H := fM.out
     clear fM
     obtain ⟨y189, eM⟩ : ∃ y_ : List Int, y_ = (([wrap64 ((wrap64 (aT + 1)) * aE)] : List Int)) := ⟨_, rfl⟩
     replace H : (if bD.length + y189.length < 17592186044416 then ((some (([ji14] : List Int) : List Int)).bind fun y195 => (if aU.length + y195.length < 17592186044416 then (standbyref56_Plan.j1 k1 (wrap64 (Int.tdiv (wrap64 ((wrap64 ((aP.length : Int) + aE)) - 1)) aE)) t187 bM aT (wrap64 ((wrap64 (aT + 1)) * aE)) (wrap64 ((wrap64 (t187 + aK)) + aM)) aP aZ aE aK aM (bD ++ y189) (aU ++ y195) bE aV bC) else (none))) else (none)) = some (r1, r2, r3, r4, r5, r6) := by first | (rw [eM]; with_reducible exact H) | (have H2_ := (Option.bind_some _ _).symm.trans H; rw [eM]; with_reducible exact H2_) | (have H2_ := (Option.bind_some _ _).symm.trans H; with_reducible exact H2_) | with_reducible exact H | (rw [eM]; exact H) | exact H
     have fK := Aside0.mk eM
     clear eM
     by_cases c26 : bD.length + y189.length < 17592186044416
     case neg =>
      rw [if_neg c26] at H
      exact absurd H (by simp)
     rw [if_pos c26] at H
     have fN := Aside0.mk c26
     clear c26
     obtain ⟨y192, eN⟩ : ∃ y_ : List Int, y_ = (bD ++ y189) := ⟨_, rfl⟩
     replace H : ((some (([ji14] : List Int) : List Int)).bind fun y195 => (if aU.length + y195.length < 17592186044416 then (standbyref56_Plan.j1 k1 (wrap64 (Int.tdiv (wrap64 ((wrap64 ((aP.length : Int) + aE)) - 1)) aE)) t187 bM aT (wrap64 ((wrap64 (aT + 1)) * aE)) (wrap64 ((wrap64 (t187 + aK)) + aM)) aP aZ aE aK aM y192 (aU ++ y195) bE aV bC) else (none))) = some (r1, r2, r3, r4, r5, r6) := by first | (rw [eN]; with_reducible exact H) | (have H2_ := (Option.bind_some _ _).symm.trans H; rw [eN]; with_reducible exact H2_) | (have H2_ := (Option.bind_some _ _).symm.trans H; with_reducible exact H2_) | with_reducible exact H | (rw [eN]; exact H) | exact H
     have fO := Aside0.mk eN
     clear eN
     obtain ⟨y195, eO⟩ : ∃ y_ : List Int, y_ = (([ji14] : List Int)) := ⟨_, rfl⟩
     replace H : (if aU.length + y195.length < 17592186044416 then (standbyref56_Plan.j1 k1 (wrap64 (Int.tdiv (wrap64 ((wrap64 ((aP.length : Int) + aE)) - 1)) aE)) t187 bM aT (wrap64 ((wrap64 (aT + 1)) * aE)) (wrap64 ((wrap64 (t187 + aK)) + aM)) aP aZ aE aK aM y192 (aU ++ y195) bE aV bC) else (none)) = some (r1, r2, r3, r4, r5, r6) := by first | (rw [eO]; with_reducible exact H) | (have H2_ := (Option.bind_some _ _).symm.trans H; rw [eO]; with_reducible exact H2_) | (have H2_ := (Option.bind_some _ _).symm.trans H; with_reducible exact H2_) | with_reducible exact H | (rw [eO]; exact H) | exact H
     have eF := Aside0.mk eO
     clear eO
     by_cases c27 : aU.length + y195.length < 17592186044416
     case neg =>
      rw [if_neg c27] at H
      exact absurd H (by simp)
     rw [if_pos c27] at H
     have hV := Aside0.mk c27
     clear c27
     obtain ⟨y198, eP⟩ : ∃ y_ : List Int, y_ = (aU ++ y195) := ⟨_, rfl⟩
     replace H : (standbyref56_Plan.j1 k1 (wrap64 (Int.tdiv (wrap64 ((wrap64 ((aP.length : Int) + aE)) - 1)) aE)) t187 bM aT (wrap64 ((wrap64 (aT + 1)) * aE)) (wrap64 ((wrap64 (t187 + aK)) + aM)) aP aZ aE aK aM y192 y198 bE aV bC) = some (r1, r2, r3, r4, r5, r6) := by first | (rw [eP]; with_reducible exact H) | (have H2_ := (Option.bind_some _ _).symm.trans H; rw [eP]; with_reducible exact H2_) | (have H2_ := (Option.bind_some _ _).symm.trans H; with_reducible exact H2_) | with_reducible exact H | (rw [eP]; exact H) | exact H
     have hW := Aside0.mk eP
     clear eP
     have H' := Aside0.mk H
     clear H
     obtain ⟨cU, cV, hX⟩ := Kd.R_slice aI.out
     subst hX
     obtain ⟨bF, bG, hY⟩ := Kd.R_slice aH.out
     subst hY
     try go_wp2
     have n0_ := Aside0.mk (Kd.R_drew aI.out)
     have n1_ := Aside0.mk (Kd.R_drew aH.out)
     have n2_ := Aside0.mk (Kd.R_drew aJ.out)
     have n3_ := Aside0.mk (Kd.R_drew aG.out)
     have n4_ := Aside0.mk (blk_drew aC.out)
     have n5_ := Aside0.mk (blk_drew aD.out)
     have n6_ := Aside0.mk (blk_drew aA.out)
     have n7_ := Aside0.mk (below_drew1 HB.out)
     clear aI aH aJ aG aC aD aA HB
     have aI := n0_
     have aH := n1_
     have aJ := n2_
     have aG := n3_
     have aC := n4_
     have aD := n5_
     have aA := n6_
     have HB := n7_
     clear n0_ n1_ n2_ n3_ n4_ n5_ n6_ n7_
     refine start_ (n := 14) (S := fun w' => w'.cell? ⟨aN, 0, none⟩ = some (.slice cU bD.length cV) ∧ w'.cell? ⟨aN, 1, none⟩ = some (.slice bF aU.length bG) ∧ w'.cell? ⟨aN, 2, none⟩ = some (aY) ∧ w'.cell? ⟨aN, 3, none⟩ = some (bB) ∧ w'.cell? ⟨aN, 4, none⟩ = some (.int .i64 bC)) (ds := [11, 13]) #[false, false, false, false, false, false, false, false, false, false, false, false, false, false] (by kernel_rfl) rfl rfl ⟨(blk_cell aA.out 0).trans rfl, (blk_cell aA.out 1).trans rfl, (blk_cell aA.out 2).trans rfl, (blk_cell aA.out 3).trans rfl, (blk_cell aA.out 4).trans rfl⟩ (fun hHeld => ?_); refine with_tabW standbyref56_Plan.tab17 standbyref56_Plan.bits17 (fun HT_ HW_ => ?_)
     generalize w24.drew = w30 at aI aH aJ aG aC aD aA HB hHeld ⊢
     refine pS (i := 0) (N := some 64) #[true, false, false, false, false, false, false, false, false, false, false, false, false, false] rfl rfl HT_.out ?_
     refine pS (i := 2) (N := some 66) #[true, false, true, false, false, false, false, false, false, false, false, false, false, false] rfl rfl HT_.out ?_
     refine pS (i := 5) (N := some 69) #[true, false, true, false, false, true, false, false, false, false, false, false, false, false] rfl rfl HT_.out ?_
     refine pS (i := 7) (N := some 71) #[true, false, true, false, false, true, false, true, false, false, false, false, false, false] rfl rfl HT_.out ?_
     refine take_ (i := 1) (N := some 65) (v := ?_) (a' := ?_) #[true, true, true, false, false, true, false, true, false, false, false, false, false, false] rfl rfl (take_ofW HT_.out HW_.out (by kernel_rfl)) (fun _ _ _ h => h) (Or.inl ⟨by rfl, ?_⟩) hHeld ?_ ?_; rotate_left
     ·rintro w' ⟨s0, s1, s2, s3, s4⟩
      go_simp
      with_reducible rfl
     rotate_left
     ·simp only [Act.put, List.setIfInBounds_toArray, List.set_cons_zero, List.set_cons_succ, i64_w, i32_w]
      rfl
     refine take_ (i := 6) (N := some 70) (v := ?_) (a' := ?_) #[true, true, true, false, false, true, true, true, false, false, false, false, false, false] rfl rfl (take_ofW HT_.out HW_.out (by kernel_rfl)) (fun _ _ _ h => h) (Or.inl ⟨by rfl, ?_⟩) hHeld ?_ ?_; rotate_left
     ·rintro w' ⟨s0, s1, s2, s3, s4⟩
      go_simp
      with_reducible rfl
     rotate_left
     ·simp only [Act.put, List.setIfInBounds_toArray, List.set_cons_zero, List.set_cons_succ, i64_w, i32_w]
      rfl
     refine join_ (σ := Value × Value × Value) 4 #[true, true, true, true, true, true, true, true, true, false, true, false, false, false] (fun s_ => [(67, s_.1), (68, s_.2.1), (72, s_.2.2), (74, .pointer (some ⟨aN, 0, none⟩))]) (fun s_ w' => (w'.cell? ⟨aN, 0, none⟩ = some (.slice cU bD.length cV) ∧ w'.cell? ⟨aN, 1, none⟩ = some (.slice bF aU.length bG) ∧ w'.cell? ⟨aN, 2, none⟩ = some (aY) ∧ w'.cell? ⟨aN, 3, none⟩ = some (bB) ∧ w'.cell? ⟨aN, 4, none⟩ = some (.int .i64 bC)) ∧ (Kd.R (Kd.int .i64) 3 w' w.heap.size (fun k_ => some k_ ≠ (s_.2.1 : Value).ownBlock ∧ some k_ ≠ (s_.2.2 : Value).ownBlock ∧ some k_ ≠ (.slice bF aU.length bG : Value).ownBlock ∧ some k_ ≠ (aY : Value).ownBlock ∧ some k_ ≠ (bB : Value).ownBlock) s_.1 y189) ∧ (Kd.R (Kd.int .i64) 3 w' w.heap.size (fun k_ => some k_ ≠ (s_.1 : Value).ownBlock ∧ some k_ ≠ (s_.2.2 : Value).ownBlock ∧ some k_ ≠ (.slice bF aU.length bG : Value).ownBlock ∧ some k_ ≠ (aY : Value).ownBlock ∧ some k_ ≠ (bB : Value).ownBlock) s_.2.1 y192) ∧ (Kd.R (Kd.int .i64) 3 w' w.heap.size (fun k_ => some k_ ≠ (s_.1 : Value).ownBlock ∧ some k_ ≠ (s_.2.1 : Value).ownBlock ∧ some k_ ≠ (.slice bF aU.length bG : Value).ownBlock ∧ some k_ ≠ (aY : Value).ownBlock ∧ some k_ ≠ (bB : Value).ownBlock) s_.2.2 y195) ∧ (Kd.R (Kd.int .i64) 3 w' w.heap.size (fun k_ => some k_ ≠ (s_.1 : Value).ownBlock ∧ some k_ ≠ (s_.2.1 : Value).ownBlock ∧ some k_ ≠ (s_.2.2 : Value).ownBlock ∧ some k_ ≠ (aY : Value).ownBlock ∧ some k_ ≠ (bB : Value).ownBlock) (.slice bF aU.length bG) aU) ∧ (Kd.R (Kd.int .i64) 3 w' w.heap.size (fun k_ => some k_ ≠ (s_.1 : Value).ownBlock ∧ some k_ ≠ (s_.2.1 : Value).ownBlock ∧ some k_ ≠ (s_.2.2 : Value).ownBlock ∧ some k_ ≠ (.slice bF aU.length bG : Value).ownBlock ∧ some k_ ≠ (bB : Value).ownBlock) aY bE) ∧ (Kd.R (Kd.int .i64) 3 w' w.heap.size (fun k_ => some k_ ≠ (s_.1 : Value).ownBlock ∧ some k_ ≠ (s_.2.1 : Value).ownBlock ∧ some k_ ≠ (s_.2.2 : Value).ownBlock ∧ some k_ ≠ (.slice bF aU.length bG : Value).ownBlock ∧ some k_ ≠ (aY : Value).ownBlock) bB aV) ∧ (w'.heap[bA]? = some (.cells #[.slice bN aP.length bO, .slice bP aZ.length bQ, .int .i64 aE, .int .i64 aK, .int .i64 aM] 24 (0, 0))) ∧ (w'.heap[aQ]? = some (.cells #[.slice none 0 0, .slice none 0 0, .slice none 0 0, .slice none 0 0, .int .i64 bL] 28 (0, 0))) ∧ (w'.heap[aN]? = some (.cells #[.slice cU bD.length cV, .slice bF aU.length bG, aY, bB, .int .i64 bC] 28 (0, 0))) ∧ (Below w.heap.size w w')) ?_ ?_; rotate_left
     ·intro hCont
      refine two_ (i := 3) (j := 8) (Ni := some 67) (Nj := some 72) #[true, true, true, true, false, true, true, true, false, false, false, false, false, false] #[true, true, true, false, false, true, true, true, true, false, false, false, false, false] rfl rfl rfl rfl (two_of HT_.out (by kernel_rfl)) (by decide) (by decide) (fun K hK => ?_) (fun K hK => ?_)
      ·skip
       refine Kd.R_lit_step (Kd.int .i64) _ 3 ?hg (N := 67) ?hd (xs := ([wrap64 ((wrap64 (aT + 1)) * aE)] : List Int)) (inner := [.int .i64 (wrap64 ((wrap64 (aT + 1)) * aE))]) (ok := fun _ => True) (okp := fun _ => True) ?hr ?hp (fun _ hk => hk) trivial (Below.refl _ _) (Nat.le_refl _) (by simp) ?_; (case hd => rfl); (case hg => rfl); (case hr => first | (go_simp; done) | (go_simp; rfl)); (case hp => exact (Reps.one (show Kd.M (Kd.int .i64) _ _ _ (wrap64 ((wrap64 (aT + 1)) * aE)) [.int .i64 (wrap64 ((wrap64 (aT + 1)) * aE))] from rfl) (Reps.none _ _)))
       intro v190 w31 bW hb hg_ hnew_
       clear hg_ hnew_
       (first | rw [← fK.out] at bW | (simp only [Int.reduceToNat] at bW; rw [← fK.out] at bW))
       have n0_ := Aside0.mk (Kd.R_elder' (qR aI.out) (Kd.R_base bW) hb)
       have n1_ := Aside0.mk (Kd.R_elder' (qR aH.out) (Kd.R_base bW) hb)
       have n2_ := Aside0.mk (Kd.R_elder' (qR aJ.out) (Kd.R_base bW) hb)
       have n3_ := Aside0.mk (Kd.R_elder' (qR aG.out) (Kd.R_base bW) hb)
       have n4_ := Aside0.mk (Kd.R_lower (Kd.R_new' (Kd.R_new' (Kd.R_new' (Kd.R_new' bW (Kd.R_lt (qR aI.out))) (Kd.R_lt (qR aH.out))) (Kd.R_lt (qR aJ.out))) (Kd.R_lt (qR aG.out))) (below_size (qW HB.out)))
       have n5_ := Aside0.mk (blk_below (qB aC.out) hb)
       have n6_ := Aside0.mk (blk_below (qB aD.out) hb)
       have n7_ := Aside0.mk (blk_below (qB aA.out) hb)
       have n8_ := Aside0.mk (below_step (qW HB.out) hb)
       clear aI aH aJ aG aC aD aA HB
       have aI := n0_
       have aH := n1_
       have aJ := n2_
       have aG := n3_
       have bH := n4_
       have aC := n5_
       have aD := n6_
       have aA := n7_
       have HB := n8_
       clear n0_ n1_ n2_ n3_ n4_ n5_ n6_ n7_ n8_ hb bW
       obtain ⟨eQ, eR, gB⟩ := Kd.R_slice bH.out
       (first | subst gB | (injection gB with f1_ f2_ f3_; have f4_ := f1_.symm; have f5_ := f3_.symm; clear f1_ f2_ f3_; subst f4_; subst f5_))
       refine hK.out _ _ ⟨(blk_cell aA.out 0).trans rfl, (blk_cell aA.out 1).trans rfl, (blk_cell aA.out 2).trans rfl, (blk_cell aA.out 3).trans rfl, (blk_cell aA.out 4).trans rfl⟩ (fun hHeld => ?_); clear hK K
       refine norm_ (a' := ?_) ?_ ?_; rotate_left
       ·show Act.put _ (some 67) _ = _
        simp only [Act.put, List.setIfInBounds_toArray, List.set_cons_zero, List.set_cons_succ, i64_w, i32_w]
        rfl
       refine two_ (i := 4) (j := 8) (Ni := some 68) (Nj := some 72) #[true, true, true, true, true, true, true, true, false, false, false, false, false, false] #[true, true, true, true, false, true, true, true, true, false, false, false, false, false] rfl rfl rfl rfl (two_of HT_.out (by kernel_rfl)) (by decide) (by decide) (fun K hK => ?_) (fun K hK => ?_)
       ·skip
        refine Kd.R_append_rows_step (Kd.int .i64) (w0 := w) w.heap.size (by rfl) (.tmp 65) (.tmp 67) 22 3 (.int .i64 0) 8 rfl Try.underlying22 info3 rfl (by decide) (by omega) (.slice cU bD.length cV) bD y189 _ _ _ (fun k_ => some k_ ≠ (.slice bF aU.length bG : Value).ownBlock ∧ some k_ ≠ (aY : Value).ownBlock ∧ some k_ ≠ (bB : Value).ownBlock ∧ some k_ ≠ (.slice eQ y189.length eR : Value).ownBlock) (fun _ => False) rfl rfl ?aO ?aR (fun _ _ h => h) (fun _ h => h.elim) ?aF ?aB ?aS ?aL ?_
        (case aR => repeat (first | exact (Kd.R_reads' bH.out).2.2 | (with_reducible refine Kd.C_alloc ?_ _) | (with_reducible refine Kd.C_drewN ?_ _) | (with_reducible refine Kd.C_drew ?_)))
        (case aB => exact (qW HB.out))
        (case aF => exact (fun k_ hk => ⟨Kd.fresh' (Kd.R_lt (qR aH.out)) k_ hk, Kd.fresh' (Kd.R_lt (qR aJ.out)) k_ hk, Kd.fresh' (Kd.R_lt (qR aG.out)) k_ hk, Kd.fresh' (Kd.R_lt (qR bH.out)) k_ hk⟩))
        (case aO => exact (qR (Kd.R_mono aI.out (fun _ hk => ⟨hk.1.1, ⟨hk.1.2.1, ⟨hk.1.2.2, hk.2⟩⟩⟩))))
        (case aS => exact (below_size (qW HB.out)))
        (case aL => have := fN.out; omega)
        intro v193 w33 ho hb hg hat
        rw [← fO.out] at ho
        have n0_ := Aside0.mk (Kd.R_after (ok := (fun k_ => some k_ ≠ (aY : Value).ownBlock ∧ some k_ ≠ (bB : Value).ownBlock ∧ some k_ ≠ (.slice eQ y189.length eR : Value).ownBlock)) (qR (Kd.R_mono aH.out (fun _ hk => ⟨⟨hk.1.2.1, ⟨hk.1.2.2, hk.2⟩⟩, hk.1.1⟩))) hg hat)
        have n1_ := Aside0.mk (Kd.R_after (ok := (fun k_ => some k_ ≠ (.slice bF aU.length bG : Value).ownBlock ∧ some k_ ≠ (bB : Value).ownBlock ∧ some k_ ≠ (.slice eQ y189.length eR : Value).ownBlock)) (qR (Kd.R_mono aJ.out (fun _ hk => ⟨⟨hk.1.2.1, ⟨hk.1.2.2, hk.2⟩⟩, hk.1.1⟩))) hg hat)
        have n2_ := Aside0.mk (Kd.R_after (ok := (fun k_ => some k_ ≠ (.slice bF aU.length bG : Value).ownBlock ∧ some k_ ≠ (aY : Value).ownBlock ∧ some k_ ≠ (.slice eQ y189.length eR : Value).ownBlock)) (qR (Kd.R_mono aG.out (fun _ hk => ⟨⟨hk.1.2.1, ⟨hk.1.2.2, hk.2⟩⟩, hk.1.1⟩))) hg hat)
        have n3_ := Aside0.mk (blk_grown (qB aC.out) hg (Kd.R_ne aI.out aC.out (by decide)))
        have n4_ := Aside0.mk (blk_grown (qB aD.out) hg (Kd.R_ne aI.out aD.out (by decide)))
        have n5_ := Aside0.mk (blk_grown (qB aA.out) hg (Kd.R_ne aI.out aA.out (by decide)))
        have n6_ := Aside0.mk (Kd.R_after (ok := (fun k_ => some k_ ≠ (.slice bF aU.length bG : Value).ownBlock ∧ some k_ ≠ (aY : Value).ownBlock ∧ some k_ ≠ (bB : Value).ownBlock)) (qR (Kd.R_mono bH.out (fun _ hk => ⟨⟨hk.1.1.2, ⟨hk.1.2, hk.2⟩⟩, hk.1.1.1.2⟩))) hg hat)
        have n7_ := Aside0.mk (hb)
        have n8_ := Aside0.mk (ho)
        clear aH aJ aG aC aD aA bH HB aI
        have aH := n0_
        have aJ := n1_
        have aG := n2_
        have aC := n3_
        have aD := n4_
        have aA := n5_
        have bH := n6_
        have HB := n7_
        have cC := n8_
        clear n0_ n1_ n2_ n3_ n4_ n5_ n6_ n7_ n8_ ho hb hg hat
        refine hK.out _ _ ⟨(blk_cell aA.out 0).trans rfl, (blk_cell aA.out 1).trans rfl, (blk_cell aA.out 2).trans rfl, (blk_cell aA.out 3).trans rfl, (blk_cell aA.out 4).trans rfl⟩ (fun hHeld => ?_); clear hK K
        refine norm_ (a' := ?_) ?_ ?_; rotate_left
        ·show Act.put _ (some 68) _ = _
         simp only [Act.put, List.setIfInBounds_toArray, List.set_cons_zero, List.set_cons_succ, i64_w, i32_w]
         rfl
        refine pS (i := 10) (N := some 74) #[true, true, true, true, true, true, true, true, false, false, true, false, false, false] rfl rfl HT_.out ?_
        refine one_ (i := 8) (N := some 72) #[true, true, true, true, true, true, true, true, true, false, true, false, false, false] rfl rfl (one_of HT_.out (by kernel_rfl)) (by decide) (fun K hK => ?_)
        refine Kd.R_lit_step (Kd.int .i64) _ 3 ?hg (N := 72) ?hd (xs := ([ji14] : List Int)) (inner := [.int .i64 ji14]) (ok := fun _ => True) (okp := fun _ => True) ?hr ?hp (fun _ hk => hk) trivial (Below.refl _ _) (Nat.le_refl _) (by simp) ?_; (case hd => rfl); (case hg => rfl); (case hr => first | (go_simp; done) | (go_simp; rfl)); (case hp => exact (Reps.one (show Kd.M (Kd.int .i64) _ _ _ ji14 [.int .i64 ji14] from rfl) (Reps.none _ _)))
        intro v196 w35 cW hb hg_ hnew_
        clear hg_ hnew_
        (first | rw [← eF.out] at cW | (simp only [Int.reduceToNat] at cW; rw [← eF.out] at cW))
        have n0_ := Aside0.mk (Kd.R_elder' (qR aH.out) (Kd.R_base cW) hb)
        have n1_ := Aside0.mk (Kd.R_elder' (qR aJ.out) (Kd.R_base cW) hb)
        have n2_ := Aside0.mk (Kd.R_elder' (qR aG.out) (Kd.R_base cW) hb)
        have n3_ := Aside0.mk (Kd.R_elder' (qR bH.out) (Kd.R_base cW) hb)
        have n4_ := Aside0.mk (Kd.R_elder' (qR cC.out) (Kd.R_base cW) hb)
        have n5_ := Aside0.mk (Kd.R_lower (Kd.R_new' (Kd.R_new' (Kd.R_new' (Kd.R_new' (Kd.R_new' cW (Kd.R_lt (qR aH.out))) (Kd.R_lt (qR aJ.out))) (Kd.R_lt (qR aG.out))) (Kd.R_lt (qR bH.out))) (Kd.R_lt (qR cC.out))) (below_size (qW HB.out)))
        have n6_ := Aside0.mk (blk_below (qB aC.out) hb)
        have n7_ := Aside0.mk (blk_below (qB aD.out) hb)
        have n8_ := Aside0.mk (blk_below (qB aA.out) hb)
        have n9_ := Aside0.mk (below_step (qW HB.out) hb)
        clear aH aJ aG bH cC aC aD aA HB
        have aH := n0_
        have aJ := n1_
        have aG := n2_
        have bH := n3_
        have cC := n4_
        have bR := n5_
        have aC := n6_
        have aD := n7_
        have aA := n8_
        have HB := n9_
        clear n0_ n1_ n2_ n3_ n4_ n5_ n6_ n7_ n8_ n9_ hb cW
        refine hK.out _ _ ⟨(blk_cell aA.out 0).trans rfl, (blk_cell aA.out 1).trans rfl, (blk_cell aA.out 2).trans rfl, (blk_cell aA.out 3).trans rfl, (blk_cell aA.out 4).trans rfl⟩ (fun hHeld => ?_); clear hK K
        refine norm_ (a' := ?_) ?_ ?_; rotate_left
        ·show Act.put _ (some 72) _ = _
         simp only [Act.put, List.setIfInBounds_toArray, List.set_cons_zero, List.set_cons_succ, i64_w, i32_w]
         rfl
        exact norm_ (by simp only [putAll, Act.put, List.setIfInBounds_toArray, List.set_cons_zero, List.set_cons_succ]) (hCont (.slice eQ y189.length eR, v193, v196) _ ⟨hHeld, (qR (Kd.R_mono bH.out (fun _ hk => ⟨hk.1.2, ⟨hk.2, ⟨hk.1.1.1, ⟨hk.1.1.2.1, hk.1.1.2.2⟩⟩⟩⟩))), (qR (Kd.R_mono cC.out (fun _ hk => ⟨hk.1.2.2.2, ⟨hk.2, ⟨hk.1.1, ⟨hk.1.2.1, hk.1.2.2.1⟩⟩⟩⟩))), (qR (Kd.R_mono bR.out (fun _ hk => ⟨hk.1.2, ⟨hk.2, ⟨hk.1.1.1.1.2, ⟨hk.1.1.1.2, hk.1.1.2⟩⟩⟩⟩))), (qR (Kd.R_mono aH.out (fun _ hk => ⟨hk.1.1.2.2, ⟨hk.1.2, ⟨hk.2, ⟨hk.1.1.1, hk.1.1.2.1⟩⟩⟩⟩))), (qR (Kd.R_mono aJ.out (fun _ hk => ⟨hk.1.1.2.2, ⟨hk.1.2, ⟨hk.2, ⟨hk.1.1.1, hk.1.1.2.1⟩⟩⟩⟩))), (qR (Kd.R_mono aG.out (fun _ hk => ⟨hk.1.1.2.2, ⟨hk.1.2, ⟨hk.2, ⟨hk.1.1.1, hk.1.1.2.1⟩⟩⟩⟩))), (qB aC.out), (qB aD.out), (qB aA.out), (qW HB.out)⟩)
       ·skip
        refine Kd.R_lit_step (Kd.int .i64) _ 3 ?hg (N := 72) ?hd (xs := ([ji14] : List Int)) (inner := [.int .i64 ji14]) (ok := fun _ => True) (okp := fun _ => True) ?hr ?hp (fun _ hk => hk) trivial (Below.refl _ _) (Nat.le_refl _) (by simp) ?_; (case hd => rfl); (case hg => rfl); (case hr => first | (go_simp; done) | (go_simp; rfl)); (case hp => exact (Reps.one (show Kd.M (Kd.int .i64) _ _ _ ji14 [.int .i64 ji14] from rfl) (Reps.none _ _)))
        intro v196 w33 bU hb hg_ hnew_
        clear hg_ hnew_
        (first | rw [← eF.out] at bU | (simp only [Int.reduceToNat] at bU; rw [← eF.out] at bU))
        have n0_ := Aside0.mk (Kd.R_elder' (qR aI.out) (Kd.R_base bU) hb)
        have n1_ := Aside0.mk (Kd.R_elder' (qR aH.out) (Kd.R_base bU) hb)
        have n2_ := Aside0.mk (Kd.R_elder' (qR aJ.out) (Kd.R_base bU) hb)
        have n3_ := Aside0.mk (Kd.R_elder' (qR aG.out) (Kd.R_base bU) hb)
        have n4_ := Aside0.mk (Kd.R_elder' (qR bH.out) (Kd.R_base bU) hb)
        have n5_ := Aside0.mk (Kd.R_lower (Kd.R_new' (Kd.R_new' (Kd.R_new' (Kd.R_new' (Kd.R_new' bU (Kd.R_lt (qR aI.out))) (Kd.R_lt (qR aH.out))) (Kd.R_lt (qR aJ.out))) (Kd.R_lt (qR aG.out))) (Kd.R_lt (qR bH.out))) (below_size (qW HB.out)))
        have n6_ := Aside0.mk (blk_below (qB aC.out) hb)
        have n7_ := Aside0.mk (blk_below (qB aD.out) hb)
        have n8_ := Aside0.mk (blk_below (qB aA.out) hb)
        have n9_ := Aside0.mk (below_step (qW HB.out) hb)
        clear aI aH aJ aG bH aC aD aA HB
        have aI := n0_
        have aH := n1_
        have aJ := n2_
        have aG := n3_
        have bH := n4_
        have bR := n5_
        have aC := n6_
        have aD := n7_
        have aA := n8_
        have HB := n9_
        clear n0_ n1_ n2_ n3_ n4_ n5_ n6_ n7_ n8_ n9_ hb bU
        obtain ⟨cF, cG, eS⟩ := Kd.R_slice bH.out
        (first | subst eS | (injection eS with f1_ f2_ f3_; have f4_ := f1_.symm; have f5_ := f3_.symm; clear f1_ f2_ f3_; subst f4_; subst f5_))
        refine hK.out _ _ ⟨(blk_cell aA.out 0).trans rfl, (blk_cell aA.out 1).trans rfl, (blk_cell aA.out 2).trans rfl, (blk_cell aA.out 3).trans rfl, (blk_cell aA.out 4).trans rfl⟩ (fun hHeld => ?_); clear hK K
        refine norm_ (a' := ?_) ?_ ?_; rotate_left
        ·show Act.put _ (some 72) _ = _
         simp only [Act.put, List.setIfInBounds_toArray, List.set_cons_zero, List.set_cons_succ, i64_w, i32_w]
         rfl
        refine one_ (i := 4) (N := some 68) #[true, true, true, true, true, true, true, true, true, false, false, false, false, false] rfl rfl (one_of HT_.out (by kernel_rfl)) (by decide) (fun K hK => ?_)
        refine Kd.R_append_rows_step (Kd.int .i64) (w0 := w) w.heap.size (by rfl) (.tmp 65) (.tmp 67) 22 3 (.int .i64 0) 8 rfl Try.underlying22 info3 rfl (by decide) (by omega) (.slice cU bD.length cV) bD y189 _ _ _ (fun k_ => some k_ ≠ (.slice bF aU.length bG : Value).ownBlock ∧ some k_ ≠ (aY : Value).ownBlock ∧ some k_ ≠ (bB : Value).ownBlock ∧ some k_ ≠ (.slice cF y189.length cG : Value).ownBlock ∧ some k_ ≠ (v196 : Value).ownBlock) (fun _ => False) rfl rfl ?aO ?aR (fun _ _ h => h) (fun _ h => h.elim) ?aF ?aB ?aS ?aL ?_
        (case aR => repeat (first | exact (Kd.R_reads' bH.out).2.2 | (with_reducible refine Kd.C_alloc ?_ _) | (with_reducible refine Kd.C_drewN ?_ _) | (with_reducible refine Kd.C_drew ?_)))
        (case aB => exact (qW HB.out))
        (case aF => exact (fun k_ hk => ⟨Kd.fresh' (Kd.R_lt (qR aH.out)) k_ hk, Kd.fresh' (Kd.R_lt (qR aJ.out)) k_ hk, Kd.fresh' (Kd.R_lt (qR aG.out)) k_ hk, Kd.fresh' (Kd.R_lt (qR bH.out)) k_ hk, Kd.fresh' (Kd.R_lt (qR bR.out)) k_ hk⟩))
        (case aO => exact (qR (Kd.R_mono aI.out (fun _ hk => ⟨hk.1.1.1, ⟨hk.1.1.2.1, ⟨hk.1.1.2.2, ⟨hk.1.2, hk.2⟩⟩⟩⟩))))
        (case aS => exact (below_size (qW HB.out)))
        (case aL => have := fN.out; omega)
        intro v193 w35 ho hb hg hat
        rw [← fO.out] at ho
        have n0_ := Aside0.mk (Kd.R_after (ok := (fun k_ => some k_ ≠ (aY : Value).ownBlock ∧ some k_ ≠ (bB : Value).ownBlock ∧ some k_ ≠ (.slice cF y189.length cG : Value).ownBlock ∧ some k_ ≠ (v196 : Value).ownBlock)) (qR (Kd.R_mono aH.out (fun _ hk => ⟨⟨hk.1.1.2.1, ⟨hk.1.1.2.2, ⟨hk.1.2, hk.2⟩⟩⟩, hk.1.1.1⟩))) hg hat)
        have n1_ := Aside0.mk (Kd.R_after (ok := (fun k_ => some k_ ≠ (.slice bF aU.length bG : Value).ownBlock ∧ some k_ ≠ (bB : Value).ownBlock ∧ some k_ ≠ (.slice cF y189.length cG : Value).ownBlock ∧ some k_ ≠ (v196 : Value).ownBlock)) (qR (Kd.R_mono aJ.out (fun _ hk => ⟨⟨hk.1.1.2.1, ⟨hk.1.1.2.2, ⟨hk.1.2, hk.2⟩⟩⟩, hk.1.1.1⟩))) hg hat)
        have n2_ := Aside0.mk (Kd.R_after (ok := (fun k_ => some k_ ≠ (.slice bF aU.length bG : Value).ownBlock ∧ some k_ ≠ (aY : Value).ownBlock ∧ some k_ ≠ (.slice cF y189.length cG : Value).ownBlock ∧ some k_ ≠ (v196 : Value).ownBlock)) (qR (Kd.R_mono aG.out (fun _ hk => ⟨⟨hk.1.1.2.1, ⟨hk.1.1.2.2, ⟨hk.1.2, hk.2⟩⟩⟩, hk.1.1.1⟩))) hg hat)
        have n3_ := Aside0.mk (blk_grown (qB aC.out) hg (Kd.R_ne aI.out aC.out (by decide)))
        have n4_ := Aside0.mk (blk_grown (qB aD.out) hg (Kd.R_ne aI.out aD.out (by decide)))
        have n5_ := Aside0.mk (blk_grown (qB aA.out) hg (Kd.R_ne aI.out aA.out (by decide)))
        have n6_ := Aside0.mk (Kd.R_after (ok := (fun k_ => some k_ ≠ (.slice bF aU.length bG : Value).ownBlock ∧ some k_ ≠ (aY : Value).ownBlock ∧ some k_ ≠ (bB : Value).ownBlock ∧ some k_ ≠ (v196 : Value).ownBlock)) (qR (Kd.R_mono bH.out (fun _ hk => ⟨⟨hk.1.1.1.2, ⟨hk.1.1.2, ⟨hk.1.2, hk.2⟩⟩⟩, hk.1.1.1.1.2⟩))) hg hat)
        have n7_ := Aside0.mk (Kd.R_after (ok := (fun k_ => some k_ ≠ (.slice bF aU.length bG : Value).ownBlock ∧ some k_ ≠ (aY : Value).ownBlock ∧ some k_ ≠ (bB : Value).ownBlock ∧ some k_ ≠ (.slice cF y189.length cG : Value).ownBlock)) (qR (Kd.R_mono bR.out (fun _ hk => ⟨⟨hk.1.1.1.2, ⟨hk.1.1.2, ⟨hk.1.2, hk.2⟩⟩⟩, hk.1.1.1.1.2⟩))) hg hat)
        have n8_ := Aside0.mk (hb)
        have n9_ := Aside0.mk (ho)
        clear aH aJ aG aC aD aA bH bR HB aI
        have aH := n0_
        have aJ := n1_
        have aG := n2_
        have aC := n3_
        have aD := n4_
        have aA := n5_
        have bH := n6_
        have bR := n7_
        have HB := n8_
        have cC := n9_
        clear n0_ n1_ n2_ n3_ n4_ n5_ n6_ n7_ n8_ n9_ ho hb hg hat
        refine hK.out _ _ ⟨(blk_cell aA.out 0).trans rfl, (blk_cell aA.out 1).trans rfl, (blk_cell aA.out 2).trans rfl, (blk_cell aA.out 3).trans rfl, (blk_cell aA.out 4).trans rfl⟩ (fun hHeld => ?_); clear hK K
        refine norm_ (a' := ?_) ?_ ?_; rotate_left
        ·show Act.put _ (some 68) _ = _
         simp only [Act.put, List.setIfInBounds_toArray, List.set_cons_zero, List.set_cons_succ, i64_w, i32_w]
         rfl
        refine pS (i := 10) (N := some 74) #[true, true, true, true, true, true, true, true, true, false, true, false, false, false] rfl rfl HT_.out ?_
        exact norm_ (by simp only [putAll, Act.put, List.setIfInBounds_toArray, List.set_cons_zero, List.set_cons_succ]) (hCont (.slice cF y189.length cG, v193, v196) _ ⟨hHeld, (qR (Kd.R_mono bH.out (fun _ hk => ⟨hk.2, ⟨hk.1.2.2.2, ⟨hk.1.1, ⟨hk.1.2.1, hk.1.2.2.1⟩⟩⟩⟩))), (qR (Kd.R_mono cC.out (fun _ hk => ⟨hk.2.2.2.1, ⟨hk.2.2.2.2, ⟨hk.1, ⟨hk.2.1, hk.2.2.1⟩⟩⟩⟩))), (qR (Kd.R_mono bR.out (fun _ hk => ⟨hk.1.2.2.2, ⟨hk.2, ⟨hk.1.1, ⟨hk.1.2.1, hk.1.2.2.1⟩⟩⟩⟩))), (qR (Kd.R_mono aH.out (fun _ hk => ⟨hk.1.2.2.1, ⟨hk.2, ⟨hk.1.2.2.2, ⟨hk.1.1, hk.1.2.1⟩⟩⟩⟩))), (qR (Kd.R_mono aJ.out (fun _ hk => ⟨hk.1.2.2.1, ⟨hk.2, ⟨hk.1.2.2.2, ⟨hk.1.1, hk.1.2.1⟩⟩⟩⟩))), (qR (Kd.R_mono aG.out (fun _ hk => ⟨hk.1.2.2.1, ⟨hk.2, ⟨hk.1.2.2.2, ⟨hk.1.1, hk.1.2.1⟩⟩⟩⟩))), (qB aC.out), (qB aD.out), (qB aA.out), (qW HB.out)⟩)
      ·skip
       refine Kd.R_lit_step (Kd.int .i64) _ 3 ?hg (N := 72) ?hd (xs := ([ji14] : List Int)) (inner := [.int .i64 ji14]) (ok := fun _ => True) (okp := fun _ => True) ?hr ?hp (fun _ hk => hk) trivial (Below.refl _ _) (Nat.le_refl _) (by simp) ?_; (case hd => rfl); (case hg => rfl); (case hr => first | (go_simp; done) | (go_simp; rfl)); (case hp => exact (Reps.one (show Kd.M (Kd.int .i64) _ _ _ ji14 [.int .i64 ji14] from rfl) (Reps.none _ _)))
       intro v196 w31 bW hb hg_ hnew_
       clear hg_ hnew_
       (first | rw [← eF.out] at bW | (simp only [Int.reduceToNat] at bW; rw [← eF.out] at bW))
       have n0_ := Aside0.mk (Kd.R_elder' (qR aI.out) (Kd.R_base bW) hb)
       have n1_ := Aside0.mk (Kd.R_elder' (qR aH.out) (Kd.R_base bW) hb)
       have n2_ := Aside0.mk (Kd.R_elder' (qR aJ.out) (Kd.R_base bW) hb)
       have n3_ := Aside0.mk (Kd.R_elder' (qR aG.out) (Kd.R_base bW) hb)
       have n4_ := Aside0.mk (Kd.R_lower (Kd.R_new' (Kd.R_new' (Kd.R_new' (Kd.R_new' bW (Kd.R_lt (qR aI.out))) (Kd.R_lt (qR aH.out))) (Kd.R_lt (qR aJ.out))) (Kd.R_lt (qR aG.out))) (below_size (qW HB.out)))
       have n5_ := Aside0.mk (blk_below (qB aC.out) hb)
       have n6_ := Aside0.mk (blk_below (qB aD.out) hb)
       have n7_ := Aside0.mk (blk_below (qB aA.out) hb)
       have n8_ := Aside0.mk (below_step (qW HB.out) hb)
       clear aI aH aJ aG aC aD aA HB
       have aI := n0_
       have aH := n1_
       have aJ := n2_
       have aG := n3_
       have bR := n4_
       have aC := n5_
       have aD := n6_
       have aA := n7_
       have HB := n8_
       clear n0_ n1_ n2_ n3_ n4_ n5_ n6_ n7_ n8_ hb bW
       refine hK.out _ _ ⟨(blk_cell aA.out 0).trans rfl, (blk_cell aA.out 1).trans rfl, (blk_cell aA.out 2).trans rfl, (blk_cell aA.out 3).trans rfl, (blk_cell aA.out 4).trans rfl⟩ (fun hHeld => ?_); clear hK K
       refine norm_ (a' := ?_) ?_ ?_; rotate_left
       ·show Act.put _ (some 72) _ = _
        simp only [Act.put, List.setIfInBounds_toArray, List.set_cons_zero, List.set_cons_succ, i64_w, i32_w]
        rfl
       refine one_ (i := 3) (N := some 67) #[true, true, true, true, false, true, true, true, true, false, false, false, false, false] rfl rfl (one_of HT_.out (by kernel_rfl)) (by decide) (fun K hK => ?_)
       refine Kd.R_lit_step (Kd.int .i64) _ 3 ?hg (N := 67) ?hd (xs := ([wrap64 ((wrap64 (aT + 1)) * aE)] : List Int)) (inner := [.int .i64 (wrap64 ((wrap64 (aT + 1)) * aE))]) (ok := fun _ => True) (okp := fun _ => True) ?hr ?hp (fun _ hk => hk) trivial (Below.refl _ _) (Nat.le_refl _) (by simp) ?_; (case hd => rfl); (case hg => rfl); (case hr => first | (go_simp; done) | (go_simp; rfl)); (case hp => exact (Reps.one (show Kd.M (Kd.int .i64) _ _ _ (wrap64 ((wrap64 (aT + 1)) * aE)) [.int .i64 (wrap64 ((wrap64 (aT + 1)) * aE))] from rfl) (Reps.none _ _)))
       intro v190 w33 bU hb hg_ hnew_
       clear hg_ hnew_
       (first | rw [← fK.out] at bU | (simp only [Int.reduceToNat] at bU; rw [← fK.out] at bU))
       have n0_ := Aside0.mk (Kd.R_elder' (qR aI.out) (Kd.R_base bU) hb)
       have n1_ := Aside0.mk (Kd.R_elder' (qR aH.out) (Kd.R_base bU) hb)
       have n2_ := Aside0.mk (Kd.R_elder' (qR aJ.out) (Kd.R_base bU) hb)
       have n3_ := Aside0.mk (Kd.R_elder' (qR aG.out) (Kd.R_base bU) hb)
       have n4_ := Aside0.mk (Kd.R_elder' (qR bR.out) (Kd.R_base bU) hb)
       have n5_ := Aside0.mk (Kd.R_lower (Kd.R_new' (Kd.R_new' (Kd.R_new' (Kd.R_new' (Kd.R_new' bU (Kd.R_lt (qR aI.out))) (Kd.R_lt (qR aH.out))) (Kd.R_lt (qR aJ.out))) (Kd.R_lt (qR aG.out))) (Kd.R_lt (qR bR.out))) (below_size (qW HB.out)))
       have n6_ := Aside0.mk (blk_below (qB aC.out) hb)
       have n7_ := Aside0.mk (blk_below (qB aD.out) hb)
       have n8_ := Aside0.mk (blk_below (qB aA.out) hb)
       have n9_ := Aside0.mk (below_step (qW HB.out) hb)
       clear aI aH aJ aG bR aC aD aA HB
       have aI := n0_
       have aH := n1_
       have aJ := n2_
       have aG := n3_
       have bR := n4_
       have bH := n5_
       have aC := n6_
       have aD := n7_
       have aA := n8_
       have HB := n9_
       clear n0_ n1_ n2_ n3_ n4_ n5_ n6_ n7_ n8_ n9_ hb bU
       obtain ⟨cF, cG, eS⟩ := Kd.R_slice bH.out
       (first | subst eS | (injection eS with f1_ f2_ f3_; have f4_ := f1_.symm; have f5_ := f3_.symm; clear f1_ f2_ f3_; subst f4_; subst f5_))
       refine hK.out _ _ ⟨(blk_cell aA.out 0).trans rfl, (blk_cell aA.out 1).trans rfl, (blk_cell aA.out 2).trans rfl, (blk_cell aA.out 3).trans rfl, (blk_cell aA.out 4).trans rfl⟩ (fun hHeld => ?_); clear hK K
       refine norm_ (a' := ?_) ?_ ?_; rotate_left
       ·show Act.put _ (some 67) _ = _
        simp only [Act.put, List.setIfInBounds_toArray, List.set_cons_zero, List.set_cons_succ, i64_w, i32_w]
        rfl
       refine one_ (i := 4) (N := some 68) #[true, true, true, true, true, true, true, true, true, false, false, false, false, false] rfl rfl (one_of HT_.out (by kernel_rfl)) (by decide) (fun K hK => ?_)
       refine Kd.R_append_rows_step (Kd.int .i64) (w0 := w) w.heap.size (by rfl) (.tmp 65) (.tmp 67) 22 3 (.int .i64 0) 8 rfl Try.underlying22 info3 rfl (by decide) (by omega) (.slice cU bD.length cV) bD y189 _ _ _ (fun k_ => some k_ ≠ (.slice bF aU.length bG : Value).ownBlock ∧ some k_ ≠ (aY : Value).ownBlock ∧ some k_ ≠ (bB : Value).ownBlock ∧ some k_ ≠ (v196 : Value).ownBlock ∧ some k_ ≠ (.slice cF y189.length cG : Value).ownBlock) (fun _ => False) rfl rfl ?aO ?aR (fun _ _ h => h) (fun _ h => h.elim) ?aF ?aB ?aS ?aL ?_
       (case aR => repeat (first | exact (Kd.R_reads' bH.out).2.2 | (with_reducible refine Kd.C_alloc ?_ _) | (with_reducible refine Kd.C_drewN ?_ _) | (with_reducible refine Kd.C_drew ?_)))
       (case aB => exact (qW HB.out))
       (case aF => exact (fun k_ hk => ⟨Kd.fresh' (Kd.R_lt (qR aH.out)) k_ hk, Kd.fresh' (Kd.R_lt (qR aJ.out)) k_ hk, Kd.fresh' (Kd.R_lt (qR aG.out)) k_ hk, Kd.fresh' (Kd.R_lt (qR bR.out)) k_ hk, Kd.fresh' (Kd.R_lt (qR bH.out)) k_ hk⟩))
       (case aO => exact (qR (Kd.R_mono aI.out (fun _ hk => ⟨hk.1.1.1, ⟨hk.1.1.2.1, ⟨hk.1.1.2.2, ⟨hk.1.2, hk.2⟩⟩⟩⟩))))
       (case aS => exact (below_size (qW HB.out)))
       (case aL => have := fN.out; omega)
       intro v193 w35 ho hb hg hat
       rw [← fO.out] at ho
       have n0_ := Aside0.mk (Kd.R_after (ok := (fun k_ => some k_ ≠ (aY : Value).ownBlock ∧ some k_ ≠ (bB : Value).ownBlock ∧ some k_ ≠ (v196 : Value).ownBlock ∧ some k_ ≠ (.slice cF y189.length cG : Value).ownBlock)) (qR (Kd.R_mono aH.out (fun _ hk => ⟨⟨hk.1.1.2.1, ⟨hk.1.1.2.2, ⟨hk.1.2, hk.2⟩⟩⟩, hk.1.1.1⟩))) hg hat)
       have n1_ := Aside0.mk (Kd.R_after (ok := (fun k_ => some k_ ≠ (.slice bF aU.length bG : Value).ownBlock ∧ some k_ ≠ (bB : Value).ownBlock ∧ some k_ ≠ (v196 : Value).ownBlock ∧ some k_ ≠ (.slice cF y189.length cG : Value).ownBlock)) (qR (Kd.R_mono aJ.out (fun _ hk => ⟨⟨hk.1.1.2.1, ⟨hk.1.1.2.2, ⟨hk.1.2, hk.2⟩⟩⟩, hk.1.1.1⟩))) hg hat)
       have n2_ := Aside0.mk (Kd.R_after (ok := (fun k_ => some k_ ≠ (.slice bF aU.length bG : Value).ownBlock ∧ some k_ ≠ (aY : Value).ownBlock ∧ some k_ ≠ (v196 : Value).ownBlock ∧ some k_ ≠ (.slice cF y189.length cG : Value).ownBlock)) (qR (Kd.R_mono aG.out (fun _ hk => ⟨⟨hk.1.1.2.1, ⟨hk.1.1.2.2, ⟨hk.1.2, hk.2⟩⟩⟩, hk.1.1.1⟩))) hg hat)
       have n3_ := Aside0.mk (blk_grown (qB aC.out) hg (Kd.R_ne aI.out aC.out (by decide)))
       have n4_ := Aside0.mk (blk_grown (qB aD.out) hg (Kd.R_ne aI.out aD.out (by decide)))
       have n5_ := Aside0.mk (blk_grown (qB aA.out) hg (Kd.R_ne aI.out aA.out (by decide)))
       have n6_ := Aside0.mk (Kd.R_after (ok := (fun k_ => some k_ ≠ (.slice bF aU.length bG : Value).ownBlock ∧ some k_ ≠ (aY : Value).ownBlock ∧ some k_ ≠ (bB : Value).ownBlock ∧ some k_ ≠ (.slice cF y189.length cG : Value).ownBlock)) (qR (Kd.R_mono bR.out (fun _ hk => ⟨⟨hk.1.1.1.2, ⟨hk.1.1.2, ⟨hk.1.2, hk.2⟩⟩⟩, hk.1.1.1.1.2⟩))) hg hat)
       have n7_ := Aside0.mk (Kd.R_after (ok := (fun k_ => some k_ ≠ (.slice bF aU.length bG : Value).ownBlock ∧ some k_ ≠ (aY : Value).ownBlock ∧ some k_ ≠ (bB : Value).ownBlock ∧ some k_ ≠ (v196 : Value).ownBlock)) (qR (Kd.R_mono bH.out (fun _ hk => ⟨⟨hk.1.1.1.2, ⟨hk.1.1.2, ⟨hk.1.2, hk.2⟩⟩⟩, hk.1.1.1.1.2⟩))) hg hat)
       have n8_ := Aside0.mk (hb)
       have n9_ := Aside0.mk (ho)
       clear aH aJ aG aC aD aA bR bH HB aI
       have aH := n0_
       have aJ := n1_
       have aG := n2_
       have aC := n3_
       have aD := n4_
       have aA := n5_
       have bR := n6_
       have bH := n7_
       have HB := n8_
       have cC := n9_
       clear n0_ n1_ n2_ n3_ n4_ n5_ n6_ n7_ n8_ n9_ ho hb hg hat
       refine hK.out _ _ ⟨(blk_cell aA.out 0).trans rfl, (blk_cell aA.out 1).trans rfl, (blk_cell aA.out 2).trans rfl, (blk_cell aA.out 3).trans rfl, (blk_cell aA.out 4).trans rfl⟩ (fun hHeld => ?_); clear hK K
       refine norm_ (a' := ?_) ?_ ?_; rotate_left
       ·show Act.put _ (some 68) _ = _
        simp only [Act.put, List.setIfInBounds_toArray, List.set_cons_zero, List.set_cons_succ, i64_w, i32_w]
        rfl
       refine pS (i := 10) (N := some 74) #[true, true, true, true, true, true, true, true, true, false, true, false, false, false] rfl rfl HT_.out ?_
       exact norm_ (by simp only [putAll, Act.put, List.setIfInBounds_toArray, List.set_cons_zero, List.set_cons_succ]) (hCont (.slice cF y189.length cG, v193, v196) _ ⟨hHeld, (qR (Kd.R_mono bH.out (fun _ hk => ⟨hk.2, ⟨hk.1.2.2.2, ⟨hk.1.1, ⟨hk.1.2.1, hk.1.2.2.1⟩⟩⟩⟩))), (qR (Kd.R_mono cC.out (fun _ hk => ⟨hk.2.2.2.2, ⟨hk.2.2.2.1, ⟨hk.1, ⟨hk.2.1, hk.2.2.1⟩⟩⟩⟩))), (qR (Kd.R_mono bR.out (fun _ hk => ⟨hk.1.2.2.2, ⟨hk.2, ⟨hk.1.1, ⟨hk.1.2.1, hk.1.2.2.1⟩⟩⟩⟩))), (qR (Kd.R_mono aH.out (fun _ hk => ⟨hk.1.2.2.2, ⟨hk.2, ⟨hk.1.2.2.1, ⟨hk.1.1, hk.1.2.1⟩⟩⟩⟩))), (qR (Kd.R_mono aJ.out (fun _ hk => ⟨hk.1.2.2.2, ⟨hk.2, ⟨hk.1.2.2.1, ⟨hk.1.1, hk.1.2.1⟩⟩⟩⟩))), (qR (Kd.R_mono aG.out (fun _ hk => ⟨hk.1.2.2.2, ⟨hk.2, ⟨hk.1.2.2.1, ⟨hk.1.1, hk.1.2.1⟩⟩⟩⟩))), (qB aC.out), (qB aD.out), (qB aA.out), (qW HB.out)⟩)
     rintro ⟨v190, v193, v196⟩ w37 ⟨hS_, h0_, h1_, h2_, h3_, h4_, h5_, h6_, h7_, h8_, h9_⟩
     have n0_ : Aside0 (Kd.R (Kd.int .i64) 3 w37 w.heap.size (fun k_ => some k_ ≠ (v193 : Value).ownBlock ∧ some k_ ≠ (v196 : Value).ownBlock ∧ some k_ ≠ (.slice bF aU.length bG : Value).ownBlock ∧ some k_ ≠ (aY : Value).ownBlock ∧ some k_ ≠ (bB : Value).ownBlock) v190 y189) := ⟨h0_⟩
     have n1_ : Aside0 (Kd.R (Kd.int .i64) 3 w37 w.heap.size (fun k_ => some k_ ≠ (v190 : Value).ownBlock ∧ some k_ ≠ (v196 : Value).ownBlock ∧ some k_ ≠ (.slice bF aU.length bG : Value).ownBlock ∧ some k_ ≠ (aY : Value).ownBlock ∧ some k_ ≠ (bB : Value).ownBlock) v193 y192) := ⟨h1_⟩
     have n2_ : Aside0 (Kd.R (Kd.int .i64) 3 w37 w.heap.size (fun k_ => some k_ ≠ (v190 : Value).ownBlock ∧ some k_ ≠ (v193 : Value).ownBlock ∧ some k_ ≠ (.slice bF aU.length bG : Value).ownBlock ∧ some k_ ≠ (aY : Value).ownBlock ∧ some k_ ≠ (bB : Value).ownBlock) v196 y195) := ⟨h2_⟩
     have n3_ : Aside0 (Kd.R (Kd.int .i64) 3 w37 w.heap.size (fun k_ => some k_ ≠ (v190 : Value).ownBlock ∧ some k_ ≠ (v193 : Value).ownBlock ∧ some k_ ≠ (v196 : Value).ownBlock ∧ some k_ ≠ (aY : Value).ownBlock ∧ some k_ ≠ (bB : Value).ownBlock) (.slice bF aU.length bG) aU) := ⟨h3_⟩
     have n4_ : Aside0 (Kd.R (Kd.int .i64) 3 w37 w.heap.size (fun k_ => some k_ ≠ (v190 : Value).ownBlock ∧ some k_ ≠ (v193 : Value).ownBlock ∧ some k_ ≠ (v196 : Value).ownBlock ∧ some k_ ≠ (.slice bF aU.length bG : Value).ownBlock ∧ some k_ ≠ (bB : Value).ownBlock) aY bE) := ⟨h4_⟩
     have n5_ : Aside0 (Kd.R (Kd.int .i64) 3 w37 w.heap.size (fun k_ => some k_ ≠ (v190 : Value).ownBlock ∧ some k_ ≠ (v193 : Value).ownBlock ∧ some k_ ≠ (v196 : Value).ownBlock ∧ some k_ ≠ (.slice bF aU.length bG : Value).ownBlock ∧ some k_ ≠ (aY : Value).ownBlock) bB aV) := ⟨h5_⟩
     have n6_ : Aside0 (w37.heap[bA]? = some (.cells #[.slice bN aP.length bO, .slice bP aZ.length bQ, .int .i64 aE, .int .i64 aK, .int .i64 aM] 24 (0, 0))) := ⟨h6_⟩
     have n7_ : Aside0 (w37.heap[aQ]? = some (.cells #[.slice none 0 0, .slice none 0 0, .slice none 0 0, .slice none 0 0, .int .i64 bL] 28 (0, 0))) := ⟨h7_⟩
     have n8_ : Aside0 (w37.heap[aN]? = some (.cells #[.slice cU bD.length cV, .slice bF aU.length bG, aY, bB, .int .i64 bC] 28 (0, 0))) := ⟨h8_⟩
     have n9_ : Aside0 (Below w.heap.size w w37) := ⟨h9_⟩
     clear aI aH aJ aG aC aD aA HB h0_ h1_ h2_ h3_ h4_ h5_ h6_ h7_ h8_ h9_
     have bH := n0_
     have cC := n1_
     have bR := n2_
     have aH := n3_
     have aJ := n4_
     have aG := n5_
     have aC := n6_
     have aD := n7_
     have aA := n8_
     have HB := n9_
     clear n0_ n1_ n2_ n3_ n4_ n5_ n6_ n7_ n8_ n9_
     have hHeld : w37.cell? ⟨aN, 0, none⟩ = some (.slice cU bD.length cV) ∧ w37.cell? ⟨aN, 1, none⟩ = some (.slice bF aU.length bG) ∧ w37.cell? ⟨aN, 2, none⟩ = some (aY) ∧ w37.cell? ⟨aN, 3, none⟩ = some (bB) ∧ w37.cell? ⟨aN, 4, none⟩ = some (.int .i64 bC) := hS_
     obtain ⟨eT, eU, gC⟩ := Kd.R_slice bR.out
     (first | subst gC | (injection gC with f1_ f2_ f3_; have f4_ := f1_.symm; have f5_ := f3_.symm; clear f1_ f2_ f3_; subst f4_; subst f5_))
     refine norm_ (a' := ?_) ?_ ?_; rotate_left
     ·simp only [putAll, Act.put, List.setIfInBounds_toArray, List.set_cons_zero, List.set_cons_succ]
      rfl
     refine one_ (i := 9) (N := some 73) #[true, true, true, true, true, true, true, true, true, true, true, false, false, false] rfl rfl (one_of HT_.out (by kernel_rfl)) (by decide) (fun K hK => ?_)
     refine Kd.R_append_rows_step (Kd.int .i64) (w0 := w) w.heap.size (by rfl) (.tmp 70) (.tmp 72) 22 3 (.int .i64 0) 8 rfl Try.underlying22 info3 rfl (by decide) (by omega) (.slice bF aU.length bG) aU y195 _ _ _ (fun k_ => some k_ ≠ (aY : Value).ownBlock ∧ some k_ ≠ (bB : Value).ownBlock ∧ some k_ ≠ (v190 : Value).ownBlock ∧ some k_ ≠ (v193 : Value).ownBlock ∧ some k_ ≠ (.slice eT y195.length eU : Value).ownBlock) (fun _ => False) rfl rfl ?aO ?aR (fun _ _ h => h) (fun _ h => h.elim) ?aF ?aB ?aS ?aL ?_
     (case aR => repeat (first | exact (Kd.R_reads' bR.out).2.2 | (with_reducible refine Kd.C_alloc ?_ _) | (with_reducible refine Kd.C_drewN ?_ _) | (with_reducible refine Kd.C_drew ?_)))
     (case aB => exact (qW HB.out))
     (case aF => exact (fun k_ hk => ⟨Kd.fresh' (Kd.R_lt (qR aJ.out)) k_ hk, Kd.fresh' (Kd.R_lt (qR aG.out)) k_ hk, Kd.fresh' (Kd.R_lt (qR bH.out)) k_ hk, Kd.fresh' (Kd.R_lt (qR cC.out)) k_ hk, Kd.fresh' (Kd.R_lt (qR bR.out)) k_ hk⟩))
     (case aO => exact (qR (Kd.R_mono aH.out (fun _ hk => ⟨hk.2.2.2.1, ⟨hk.2.2.2.2, ⟨hk.1, ⟨hk.2.1, hk.2.2.1⟩⟩⟩⟩))))
     (case aS => exact (below_size (qW HB.out)))
     (case aL => have := hV.out; omega)
     intro v199 w38 ho hb hg hat
     rw [← hW.out] at ho
     have n0_ := Aside0.mk (Kd.R_after (ok := (fun k_ => some k_ ≠ (bB : Value).ownBlock ∧ some k_ ≠ (v190 : Value).ownBlock ∧ some k_ ≠ (v193 : Value).ownBlock ∧ some k_ ≠ (.slice eT y195.length eU : Value).ownBlock)) (qR (Kd.R_mono aJ.out (fun _ hk => ⟨⟨hk.2.2.2.2, ⟨hk.1, ⟨hk.2.1, hk.2.2.1⟩⟩⟩, hk.2.2.2.1⟩))) hg hat)
     have n1_ := Aside0.mk (Kd.R_after (ok := (fun k_ => some k_ ≠ (aY : Value).ownBlock ∧ some k_ ≠ (v190 : Value).ownBlock ∧ some k_ ≠ (v193 : Value).ownBlock ∧ some k_ ≠ (.slice eT y195.length eU : Value).ownBlock)) (qR (Kd.R_mono aG.out (fun _ hk => ⟨⟨hk.2.2.2.2, ⟨hk.1, ⟨hk.2.1, hk.2.2.1⟩⟩⟩, hk.2.2.2.1⟩))) hg hat)
     have n2_ := Aside0.mk (blk_grown (qB aC.out) hg (Kd.R_ne aH.out aC.out (by decide)))
     have n3_ := Aside0.mk (blk_grown (qB aD.out) hg (Kd.R_ne aH.out aD.out (by decide)))
     have n4_ := Aside0.mk (blk_grown (qB aA.out) hg (Kd.R_ne aH.out aA.out (by decide)))
     have n5_ := Aside0.mk (Kd.R_after (ok := (fun k_ => some k_ ≠ (aY : Value).ownBlock ∧ some k_ ≠ (bB : Value).ownBlock ∧ some k_ ≠ (v193 : Value).ownBlock ∧ some k_ ≠ (.slice eT y195.length eU : Value).ownBlock)) (qR (Kd.R_mono bH.out (fun _ hk => ⟨⟨hk.2.2.2.1, ⟨hk.2.2.2.2, ⟨hk.1, hk.2.1⟩⟩⟩, hk.2.2.1⟩))) hg hat)
     have n6_ := Aside0.mk (Kd.R_after (ok := (fun k_ => some k_ ≠ (aY : Value).ownBlock ∧ some k_ ≠ (bB : Value).ownBlock ∧ some k_ ≠ (v190 : Value).ownBlock ∧ some k_ ≠ (.slice eT y195.length eU : Value).ownBlock)) (qR (Kd.R_mono cC.out (fun _ hk => ⟨⟨hk.2.2.2.1, ⟨hk.2.2.2.2, ⟨hk.1, hk.2.1⟩⟩⟩, hk.2.2.1⟩))) hg hat)
     have n7_ := Aside0.mk (Kd.R_after (ok := (fun k_ => some k_ ≠ (aY : Value).ownBlock ∧ some k_ ≠ (bB : Value).ownBlock ∧ some k_ ≠ (v190 : Value).ownBlock ∧ some k_ ≠ (v193 : Value).ownBlock)) (qR (Kd.R_mono bR.out (fun _ hk => ⟨⟨hk.2.2.2.1, ⟨hk.2.2.2.2, ⟨hk.1, hk.2.1⟩⟩⟩, hk.2.2.1⟩))) hg hat)
     have n8_ := Aside0.mk (hb)
     have n9_ := Aside0.mk (ho)
     clear aJ aG aC aD aA bH cC bR HB aH
     have aJ := n0_
     have aG := n1_
     have aC := n2_
     have aD := n3_
     have aA := n4_
     have bH := n5_
     have cC := n6_
     have bR := n7_
     have HB := n8_
     have gD := n9_
     clear n0_ n1_ n2_ n3_ n4_ n5_ n6_ n7_ n8_ n9_ ho hb hg hat
     obtain ⟨eG, eH, gE⟩ := Kd.R_slice cC.out
     (first | subst gE | (injection gE with f1_ f2_ f3_; have f4_ := f1_.symm; have f5_ := f3_.symm; clear f1_ f2_ f3_; subst f4_; subst f5_))
     obtain ⟨eV, eW, gF⟩ := Kd.R_slice gD.out
     (first | subst gF | (injection gF with f1_ f2_ f3_; have f4_ := f1_.symm; have f5_ := f3_.symm; clear f1_ f2_ f3_; subst f4_; subst f5_))
     refine hK.out _ _ ⟨(blk_cell aA.out 0).trans rfl, (blk_cell aA.out 1).trans rfl, (blk_cell aA.out 2).trans rfl, (blk_cell aA.out 3).trans rfl, (blk_cell aA.out 4).trans rfl⟩ (fun hHeld => ?_); clear hK K
     refine norm_ (a' := ?_) ?_ ?_; rotate_left
     ·show Act.put _ (some 73) _ = _
      simp only [Act.put, List.setIfInBounds_toArray, List.set_cons_zero, List.set_cons_succ, i64_w, i32_w]
      rfl
     refine last_ (i := 11) (N := none) #[true, true, true, true, true, true, true, true, true, true, true, true, false, false] rfl rfl (one_of HT_.out (by kernel_rfl)) (by decide) (fun K hK => ?_)
     have hs41 : w38.cell? ⟨aN, 0, none⟩ = some (.slice cU bD.length cV) := (blk_cell aA.out 0).trans rfl
     have hfs41 := blk_frozen aA.out 0
     have hns41_0 := bY.out
     have hns41_1 := cB.out
     have hms41_0 := cK.out
     have hms41_1 := cT.out
     refine skip_ (w1 := ?_) (by rfl) rfl ?_ ?_; rotate_left
     ·go_simp
      rfl
     refine hK.out _ _ ?_; clear hK K
     refine pS (i := 12) (N := some 75) #[true, true, true, true, true, true, true, true, true, true, true, true, true, false] rfl rfl HT_.out ?_
     refine last_ (i := 13) (N := none) #[true, true, true, true, true, true, true, true, true, true, true, true, true, true] rfl rfl (one_of HT_.out (by kernel_rfl)) (by decide) (fun K hK => ?_)
     have hs43 : w38.cell? ⟨aN, 1, none⟩ = some (.slice bF aU.length bG) := (blk_cell aA.out 1).trans rfl
     have hfs43 := blk_frozen aA.out 1
     have hns43_0 := bY.out
     have hns43_1 := cB.out
     have hms43_0 := cK.out
     have hms43_1 := cT.out
     refine skip_ (w1 := ?_) (by rfl) rfl ?_ ?_; rotate_left
     ·go_simp
      rfl
     refine hK.out _ _ ?_; clear hK K
     refine done_ (done_of HT_.out (by kernel_rfl)) ?_
     try go_wp2
     go_meet
     case rel => exact ⟨_, (y192), (y198), (.slice eG y192.length eH), (.slice eV y198.length eW), H', ⟨by have := HK1.out; first | omega | exact Nat.le_refl _⟩, ⟨by exact qR (Kd.R_mono (Kd.R_far (p := ⟨aN, 1, none⟩) (Kd.R_far (p := ⟨aN, 0, none⟩) (Kd.R_types cC.out aA.out (by decide)) (fun _ hk => hk.2) (.slice eG y192.length eH)) (fun _ hk => hk.2) (.slice eV y198.length eW)) (fun _ hk => ⟨hk.1.2, ⟨hk.1.1.1, hk.1.1.2.1⟩⟩))⟩, ⟨by exact qR (Kd.R_mono (Kd.R_far (p := ⟨aN, 1, none⟩) (Kd.R_far (p := ⟨aN, 0, none⟩) (Kd.R_types gD.out aA.out (by decide)) (fun _ hk => hk.2) (.slice eG y192.length eH)) (fun _ hk => hk.2) (.slice eV y198.length eW)) (fun _ hk => ⟨hk.1.2.2.2.1, ⟨hk.1.1, hk.1.2.1⟩⟩))⟩, ⟨by exact qR (Kd.R_mono (Kd.R_far (p := ⟨aN, 1, none⟩) (Kd.R_far (p := ⟨aN, 0, none⟩) (Kd.R_types aJ.out aA.out (by decide)) (fun _ hk => hk.2) (.slice eG y192.length eH)) (fun _ hk => hk.2) (.slice eV y198.length eW)) (fun _ hk => ⟨hk.1.1.2.2.1, ⟨hk.1.2, hk.1.1.1⟩⟩))⟩, ⟨by exact qR (Kd.R_mono (Kd.R_far (p := ⟨aN, 1, none⟩) (Kd.R_far (p := ⟨aN, 0, none⟩) (Kd.R_types aG.out aA.out (by decide)) (fun _ hk => hk.2) (.slice eG y192.length eH)) (fun _ hk => hk.2) (.slice eV y198.length eW)) (fun _ hk => ⟨hk.1.1.2.2.1, ⟨hk.1.2, hk.1.1.1⟩⟩))⟩, ⟨by (with_reducible repeat (first | refine blk_drewN ?_ _ | refine blk_drew ?_ | refine blk_alloc ?_ _)); refine blk_far ?_ bY.out _; (with_reducible repeat (first | refine blk_drewN ?_ _ | refine blk_drew ?_ | refine blk_alloc ?_ _)); refine blk_far ?_ bY.out _; exact qB aC.out⟩, ⟨by (with_reducible repeat (first | refine blk_drewN ?_ _ | refine blk_drew ?_ | refine blk_alloc ?_ _)); refine blk_far ?_ cB.out _; (with_reducible repeat (first | refine blk_drewN ?_ _ | refine blk_drew ?_ | refine blk_alloc ?_ _)); refine blk_far ?_ cB.out _; exact qB aD.out⟩, ⟨by (with_reducible repeat (first | refine blk_drewN ?_ _ | refine blk_drew ?_ | refine blk_alloc ?_ _)); refine blk_put (cs := #[.slice eG y192.length eH, .slice bF aU.length bG, aY, bB, .int .i64 bC]) ?_ 1 _ rfl; (with_reducible repeat (first | refine blk_drewN ?_ _ | refine blk_drew ?_ | refine blk_alloc ?_ _)); refine blk_put (cs := #[.slice cU bD.length cV, .slice bF aU.length bG, aY, bB, .int .i64 bC]) ?_ 0 _ rfl; exact qB aA.out⟩, ⟨by repeat (first | (with_reducible first | exact HB.out | apply below_alloc | apply pw_below_drewN | apply below_drew1 | refine below_set ?_ cO.out | refine below_set ?_ cP.out | refine below_set ?_ dE.out) | exact HB.out)⟩⟩
    case rest =>
     clear fM
     try clear c2
     try clear p2
     try clear p6
     try clear c26
     try clear c27
     obtain ⟨kq, bZ, cA, aW, aX, HA, dU, aI, aH, aJ, aG, aC, aD, aA, HB⟩ := hcut
     cases kq with
     | zero => exact absurd HA.out (by simp [standbyref56_Plan.j1])
     | succ eX =>
      have H := HA.out
      clear HA
      simp only [standbyref56_Plan.j1] at H
      have fP := Aside0.mk H
      clear H
      go_upto_region 18 with (fail)
      go_cut [] (fun wc => ∃ (kq : Nat) (cX : List Int) (bT : List Int) (aY : Value) (bB : Value), Aside0 (standbyref56_Plan.j2 kq (wrap64 (Int.tdiv (wrap64 ((wrap64 ((aP.length : Int) + aE)) - 1)) aE)) t187 bM aT (wrap64 ((wrap64 (aT + 1)) * aE)) (wrap64 ((wrap64 (t187 + aK)) + aM)) aP aZ aE aK aM bZ cA cX bT bC = some (r1, r2, r3, r4, r5, r6)) ∧ Aside0 (kq ≤ eX) ∧ Aside0 (Kd.R (Kd.int .i64) 3 wc w.heap.size (fun k_ => some k_ ≠ (aX : Value).ownBlock ∧ some k_ ≠ (aY : Value).ownBlock ∧ some k_ ≠ (bB : Value).ownBlock) aW bZ) ∧ Aside0 (Kd.R (Kd.int .i64) 3 wc w.heap.size (fun k_ => some k_ ≠ (aW : Value).ownBlock ∧ some k_ ≠ (aY : Value).ownBlock ∧ some k_ ≠ (bB : Value).ownBlock) aX cA) ∧ Aside0 (Kd.R (Kd.int .i64) 3 wc w.heap.size (fun k_ => some k_ ≠ (aW : Value).ownBlock ∧ some k_ ≠ (aX : Value).ownBlock ∧ some k_ ≠ (bB : Value).ownBlock) aY cX) ∧ Aside0 (Kd.R (Kd.int .i64) 3 wc w.heap.size (fun k_ => some k_ ≠ (aW : Value).ownBlock ∧ some k_ ≠ (aX : Value).ownBlock ∧ some k_ ≠ (aY : Value).ownBlock) bB bT) ∧ Aside0 (wc.heap[bA]? = some (.cells #[(.slice bN aP.length bO), (.slice bP aZ.length bQ), .int .i64 aE, .int .i64 aK, .int .i64 aM] 24 (0, 0))) ∧ Aside0 (wc.heap[aQ]? = some (.cells #[(.slice none 0 0), (.slice none 0 0), (.slice none 0 0), (.slice none 0 0), .int .i64 bL] 28 (0, 0))) ∧ Aside0 (wc.heap[aN]? = some (.cells #[aW, aX, aY, bB, .int .i64 bC] 28 (0, 0))) ∧ Aside0 (Below w.heap.size w wc))
      case first =>
       have H := fP.out
       clear fP
       obtain ⟨y201, eY⟩ : ∃ y_ : List Int, y_ = (([t187] : List Int)) := ⟨_, rfl⟩
       replace H : (if bE.length + y201.length < 17592186044416 then ((some (([(wrap64 ((wrap64 (t187 + aK)) + aM))] : List Int) : List Int)).bind fun y207 => (if aV.length + y207.length < 17592186044416 then (standbyref56_Plan.j2 eX (wrap64 (Int.tdiv (wrap64 ((wrap64 ((aP.length : Int) + aE)) - 1)) aE)) t187 bM aT (wrap64 ((wrap64 (aT + 1)) * aE)) (wrap64 ((wrap64 (t187 + aK)) + aM)) aP aZ aE aK aM bZ cA (bE ++ y201) (aV ++ y207) bC) else (none))) else (none)) = some (r1, r2, r3, r4, r5, r6) := by first | (rw [eY]; with_reducible exact H) | (have H2_ := (Option.bind_some _ _).symm.trans H; rw [eY]; with_reducible exact H2_) | (have H2_ := (Option.bind_some _ _).symm.trans H; with_reducible exact H2_) | with_reducible exact H | (rw [eY]; exact H) | exact H
       have fL := Aside0.mk eY
       clear eY
       by_cases c45 : bE.length + y201.length < 17592186044416
       case neg =>
        rw [if_neg c45] at H
        exact absurd H (by simp)
       rw [if_pos c45] at H
       have fQ := Aside0.mk c45
       clear c45
       obtain ⟨y204, eZ⟩ : ∃ y_ : List Int, y_ = (bE ++ y201) := ⟨_, rfl⟩
       replace H : ((some (([(wrap64 ((wrap64 (t187 + aK)) + aM))] : List Int) : List Int)).bind fun y207 => (if aV.length + y207.length < 17592186044416 then (standbyref56_Plan.j2 eX (wrap64 (Int.tdiv (wrap64 ((wrap64 ((aP.length : Int) + aE)) - 1)) aE)) t187 bM aT (wrap64 ((wrap64 (aT + 1)) * aE)) (wrap64 ((wrap64 (t187 + aK)) + aM)) aP aZ aE aK aM bZ cA y204 (aV ++ y207) bC) else (none))) = some (r1, r2, r3, r4, r5, r6) := by first | (rw [eZ]; with_reducible exact H) | (have H2_ := (Option.bind_some _ _).symm.trans H; rw [eZ]; with_reducible exact H2_) | (have H2_ := (Option.bind_some _ _).symm.trans H; with_reducible exact H2_) | with_reducible exact H | (rw [eZ]; exact H) | exact H
       have fR := Aside0.mk eZ
       clear eZ
       obtain ⟨y207, fA⟩ : ∃ y_ : List Int, y_ = (([(wrap64 ((wrap64 (t187 + aK)) + aM))] : List Int)) := ⟨_, rfl⟩
       replace H : (if aV.length + y207.length < 17592186044416 then (standbyref56_Plan.j2 eX (wrap64 (Int.tdiv (wrap64 ((wrap64 ((aP.length : Int) + aE)) - 1)) aE)) t187 bM aT (wrap64 ((wrap64 (aT + 1)) * aE)) (wrap64 ((wrap64 (t187 + aK)) + aM)) aP aZ aE aK aM bZ cA y204 (aV ++ y207) bC) else (none)) = some (r1, r2, r3, r4, r5, r6) := by first | (rw [fA]; with_reducible exact H) | (have H2_ := (Option.bind_some _ _).symm.trans H; rw [fA]; with_reducible exact H2_) | (have H2_ := (Option.bind_some _ _).symm.trans H; with_reducible exact H2_) | with_reducible exact H | (rw [fA]; exact H) | exact H
       have eI := Aside0.mk fA
       clear fA
       by_cases c46 : aV.length + y207.length < 17592186044416
       case neg =>
        rw [if_neg c46] at H
        exact absurd H (by simp)
       rw [if_pos c46] at H
       have hZ := Aside0.mk c46
       clear c46
       obtain ⟨y210, fB⟩ : ∃ y_ : List Int, y_ = (aV ++ y207) := ⟨_, rfl⟩
       replace H : (standbyref56_Plan.j2 eX (wrap64 (Int.tdiv (wrap64 ((wrap64 ((aP.length : Int) + aE)) - 1)) aE)) t187 bM aT (wrap64 ((wrap64 (aT + 1)) * aE)) (wrap64 ((wrap64 (t187 + aK)) + aM)) aP aZ aE aK aM bZ cA y204 y210 bC) = some (r1, r2, r3, r4, r5, r6) := by first | (rw [fB]; with_reducible exact H) | (have H2_ := (Option.bind_some _ _).symm.trans H; rw [fB]; with_reducible exact H2_) | (have H2_ := (Option.bind_some _ _).symm.trans H; with_reducible exact H2_) | with_reducible exact H | (rw [fB]; exact H) | exact H
       have iA := Aside0.mk fB
       clear fB
       have H' := Aside0.mk H
       clear H
       obtain ⟨cY, cZ, iB⟩ := Kd.R_slice aJ.out
       subst iB
       obtain ⟨bI, bJ, iC⟩ := Kd.R_slice aG.out
       subst iC
       try go_wp2
       have n0_ := Aside0.mk (Kd.R_drew aI.out)
       have n1_ := Aside0.mk (Kd.R_drew aH.out)
       have n2_ := Aside0.mk (Kd.R_drew aJ.out)
       have n3_ := Aside0.mk (Kd.R_drew aG.out)
       have n4_ := Aside0.mk (blk_drew aC.out)
       have n5_ := Aside0.mk (blk_drew aD.out)
       have n6_ := Aside0.mk (blk_drew aA.out)
       have n7_ := Aside0.mk (below_drew1 HB.out)
       clear aI aH aJ aG aC aD aA HB
       have aI := n0_
       have aH := n1_
       have aJ := n2_
       have aG := n3_
       have aC := n4_
       have aD := n5_
       have aA := n6_
       have HB := n7_
       clear n0_ n1_ n2_ n3_ n4_ n5_ n6_ n7_
       refine start_ (n := 14) (S := fun w' => w'.cell? ⟨aN, 0, none⟩ = some (aW) ∧ w'.cell? ⟨aN, 1, none⟩ = some (aX) ∧ w'.cell? ⟨aN, 2, none⟩ = some (.slice cY bE.length cZ) ∧ w'.cell? ⟨aN, 3, none⟩ = some (.slice bI aV.length bJ) ∧ w'.cell? ⟨aN, 4, none⟩ = some (.int .i64 bC)) (ds := [11, 13]) #[false, false, false, false, false, false, false, false, false, false, false, false, false, false] (by kernel_rfl) rfl rfl ⟨(blk_cell aA.out 0).trans rfl, (blk_cell aA.out 1).trans rfl, (blk_cell aA.out 2).trans rfl, (blk_cell aA.out 3).trans rfl, (blk_cell aA.out 4).trans rfl⟩ (fun hHeld => ?_); refine with_tabW standbyref56_Plan.tab18 standbyref56_Plan.bits18 (fun HT_ HW_ => ?_)
       generalize wc.drew = w49 at aI aH aJ aG aC aD aA HB hHeld ⊢
       refine pS (i := 0) (N := some 76) #[true, false, false, false, false, false, false, false, false, false, false, false, false, false] rfl rfl HT_.out ?_
       refine pS (i := 2) (N := some 78) #[true, false, true, false, false, false, false, false, false, false, false, false, false, false] rfl rfl HT_.out ?_
       refine pS (i := 5) (N := some 81) #[true, false, true, false, false, true, false, false, false, false, false, false, false, false] rfl rfl HT_.out ?_
       refine pS (i := 7) (N := some 83) #[true, false, true, false, false, true, false, true, false, false, false, false, false, false] rfl rfl HT_.out ?_
       refine take_ (i := 1) (N := some 77) (v := ?_) (a' := ?_) #[true, true, true, false, false, true, false, true, false, false, false, false, false, false] rfl rfl (take_ofW HT_.out HW_.out (by kernel_rfl)) (fun _ _ _ h => h) (Or.inl ⟨by rfl, ?_⟩) hHeld ?_ ?_; rotate_left
       ·rintro w' ⟨s0, s1, s2, s3, s4⟩
        go_simp
        with_reducible rfl
       rotate_left
       ·simp only [Act.put, List.setIfInBounds_toArray, List.set_cons_zero, List.set_cons_succ, i64_w, i32_w]
        rfl
       refine take_ (i := 6) (N := some 82) (v := ?_) (a' := ?_) #[true, true, true, false, false, true, true, true, false, false, false, false, false, false] rfl rfl (take_ofW HT_.out HW_.out (by kernel_rfl)) (fun _ _ _ h => h) (Or.inl ⟨by rfl, ?_⟩) hHeld ?_ ?_; rotate_left
       ·rintro w' ⟨s0, s1, s2, s3, s4⟩
        go_simp
        with_reducible rfl
       rotate_left
       ·simp only [Act.put, List.setIfInBounds_toArray, List.set_cons_zero, List.set_cons_succ, i64_w, i32_w]
        rfl
       refine join_ (σ := Value × Value × Value) 4 #[true, true, true, true, true, true, true, true, true, false, true, false, false, false] (fun s_ => [(79, s_.1), (80, s_.2.1), (84, s_.2.2), (86, .pointer (some ⟨aN, 2, none⟩))]) (fun s_ w' => (w'.cell? ⟨aN, 0, none⟩ = some (aW) ∧ w'.cell? ⟨aN, 1, none⟩ = some (aX) ∧ w'.cell? ⟨aN, 2, none⟩ = some (.slice cY bE.length cZ) ∧ w'.cell? ⟨aN, 3, none⟩ = some (.slice bI aV.length bJ) ∧ w'.cell? ⟨aN, 4, none⟩ = some (.int .i64 bC)) ∧ (Kd.R (Kd.int .i64) 3 w' w.heap.size (fun k_ => some k_ ≠ (s_.2.1 : Value).ownBlock ∧ some k_ ≠ (s_.2.2 : Value).ownBlock ∧ some k_ ≠ (aW : Value).ownBlock ∧ some k_ ≠ (aX : Value).ownBlock ∧ some k_ ≠ (.slice bI aV.length bJ : Value).ownBlock) s_.1 y201) ∧ (Kd.R (Kd.int .i64) 3 w' w.heap.size (fun k_ => some k_ ≠ (s_.1 : Value).ownBlock ∧ some k_ ≠ (s_.2.2 : Value).ownBlock ∧ some k_ ≠ (aW : Value).ownBlock ∧ some k_ ≠ (aX : Value).ownBlock ∧ some k_ ≠ (.slice bI aV.length bJ : Value).ownBlock) s_.2.1 y204) ∧ (Kd.R (Kd.int .i64) 3 w' w.heap.size (fun k_ => some k_ ≠ (s_.1 : Value).ownBlock ∧ some k_ ≠ (s_.2.1 : Value).ownBlock ∧ some k_ ≠ (aW : Value).ownBlock ∧ some k_ ≠ (aX : Value).ownBlock ∧ some k_ ≠ (.slice bI aV.length bJ : Value).ownBlock) s_.2.2 y207) ∧ (Kd.R (Kd.int .i64) 3 w' w.heap.size (fun k_ => some k_ ≠ (s_.1 : Value).ownBlock ∧ some k_ ≠ (s_.2.1 : Value).ownBlock ∧ some k_ ≠ (s_.2.2 : Value).ownBlock ∧ some k_ ≠ (aX : Value).ownBlock ∧ some k_ ≠ (.slice bI aV.length bJ : Value).ownBlock) aW bZ) ∧ (Kd.R (Kd.int .i64) 3 w' w.heap.size (fun k_ => some k_ ≠ (s_.1 : Value).ownBlock ∧ some k_ ≠ (s_.2.1 : Value).ownBlock ∧ some k_ ≠ (s_.2.2 : Value).ownBlock ∧ some k_ ≠ (aW : Value).ownBlock ∧ some k_ ≠ (.slice bI aV.length bJ : Value).ownBlock) aX cA) ∧ (Kd.R (Kd.int .i64) 3 w' w.heap.size (fun k_ => some k_ ≠ (s_.1 : Value).ownBlock ∧ some k_ ≠ (s_.2.1 : Value).ownBlock ∧ some k_ ≠ (s_.2.2 : Value).ownBlock ∧ some k_ ≠ (aW : Value).ownBlock ∧ some k_ ≠ (aX : Value).ownBlock) (.slice bI aV.length bJ) aV) ∧ (w'.heap[bA]? = some (.cells #[.slice bN aP.length bO, .slice bP aZ.length bQ, .int .i64 aE, .int .i64 aK, .int .i64 aM] 24 (0, 0))) ∧ (w'.heap[aQ]? = some (.cells #[.slice none 0 0, .slice none 0 0, .slice none 0 0, .slice none 0 0, .int .i64 bL] 28 (0, 0))) ∧ (w'.heap[aN]? = some (.cells #[aW, aX, .slice cY bE.length cZ, .slice bI aV.length bJ, .int .i64 bC] 28 (0, 0))) ∧ (Below w.heap.size w w')) ?_ ?_; rotate_left
       ·intro hCont
        refine two_ (i := 3) (j := 8) (Ni := some 79) (Nj := some 84) #[true, true, true, true, false, true, true, true, false, false, false, false, false, false] #[true, true, true, false, false, true, true, true, true, false, false, false, false, false] rfl rfl rfl rfl (two_of HT_.out (by kernel_rfl)) (by decide) (by decide) (fun K hK => ?_) (fun K hK => ?_)
        ·skip
         refine Kd.R_lit_step (Kd.int .i64) _ 3 ?hg (N := 79) ?hd (xs := ([t187] : List Int)) (inner := [.int .i64 t187]) (ok := fun _ => True) (okp := fun _ => True) ?hr ?hp (fun _ hk => hk) trivial (Below.refl _ _) (Nat.le_refl _) (by simp) ?_; (case hd => rfl); (case hg => rfl); (case hr => first | (go_simp; done) | (go_simp; rfl)); (case hp => exact (Reps.one (show Kd.M (Kd.int .i64) _ _ _ t187 [.int .i64 t187] from rfl) (Reps.none _ _)))
         intro v202 w50 bX hb hg_ hnew_
         clear hg_ hnew_
         (first | rw [← fL.out] at bX | (simp only [Int.reduceToNat] at bX; rw [← fL.out] at bX))
         have n0_ := Aside0.mk (Kd.R_elder' (qR aI.out) (Kd.R_base bX) hb)
         have n1_ := Aside0.mk (Kd.R_elder' (qR aH.out) (Kd.R_base bX) hb)
         have n2_ := Aside0.mk (Kd.R_elder' (qR aJ.out) (Kd.R_base bX) hb)
         have n3_ := Aside0.mk (Kd.R_elder' (qR aG.out) (Kd.R_base bX) hb)
         have n4_ := Aside0.mk (Kd.R_lower (Kd.R_new' (Kd.R_new' (Kd.R_new' (Kd.R_new' bX (Kd.R_lt (qR aI.out))) (Kd.R_lt (qR aH.out))) (Kd.R_lt (qR aJ.out))) (Kd.R_lt (qR aG.out))) (below_size (qW HB.out)))
         have n5_ := Aside0.mk (blk_below (qB aC.out) hb)
         have n6_ := Aside0.mk (blk_below (qB aD.out) hb)
         have n7_ := Aside0.mk (blk_below (qB aA.out) hb)
         have n8_ := Aside0.mk (below_step (qW HB.out) hb)
         clear aI aH aJ aG aC aD aA HB
         have aI := n0_
         have aH := n1_
         have aJ := n2_
         have aG := n3_
         have bK := n4_
         have aC := n5_
         have aD := n6_
         have aA := n7_
         have HB := n8_
         clear n0_ n1_ n2_ n3_ n4_ n5_ n6_ n7_ n8_ hb bX
         obtain ⟨fC, fD, gG⟩ := Kd.R_slice bK.out
         (first | subst gG | (injection gG with f1_ f2_ f3_; have f4_ := f1_.symm; have f5_ := f3_.symm; clear f1_ f2_ f3_; subst f4_; subst f5_))
         refine hK.out _ _ ⟨(blk_cell aA.out 0).trans rfl, (blk_cell aA.out 1).trans rfl, (blk_cell aA.out 2).trans rfl, (blk_cell aA.out 3).trans rfl, (blk_cell aA.out 4).trans rfl⟩ (fun hHeld => ?_); clear hK K
         refine norm_ (a' := ?_) ?_ ?_; rotate_left
         ·show Act.put _ (some 79) _ = _
          simp only [Act.put, List.setIfInBounds_toArray, List.set_cons_zero, List.set_cons_succ, i64_w, i32_w]
          rfl
         refine two_ (i := 4) (j := 8) (Ni := some 80) (Nj := some 84) #[true, true, true, true, true, true, true, true, false, false, false, false, false, false] #[true, true, true, true, false, true, true, true, true, false, false, false, false, false] rfl rfl rfl rfl (two_of HT_.out (by kernel_rfl)) (by decide) (by decide) (fun K hK => ?_) (fun K hK => ?_)
         ·skip
          refine Kd.R_append_rows_step (Kd.int .i64) (w0 := w) w.heap.size (by rfl) (.tmp 77) (.tmp 79) 22 3 (.int .i64 0) 8 rfl Try.underlying22 info3 rfl (by decide) (by omega) (.slice cY bE.length cZ) bE y201 _ _ _ (fun k_ => some k_ ≠ (aW : Value).ownBlock ∧ some k_ ≠ (aX : Value).ownBlock ∧ some k_ ≠ (.slice bI aV.length bJ : Value).ownBlock ∧ some k_ ≠ (.slice fC y201.length fD : Value).ownBlock) (fun _ => False) rfl rfl ?aO ?aR (fun _ _ h => h) (fun _ h => h.elim) ?aF ?aB ?aS ?aL ?_
          (case aR => repeat (first | exact (Kd.R_reads' bK.out).2.2 | (with_reducible refine Kd.C_alloc ?_ _) | (with_reducible refine Kd.C_drewN ?_ _) | (with_reducible refine Kd.C_drew ?_)))
          (case aB => exact (qW HB.out))
          (case aF => exact (fun k_ hk => ⟨Kd.fresh' (Kd.R_lt (qR aI.out)) k_ hk, Kd.fresh' (Kd.R_lt (qR aH.out)) k_ hk, Kd.fresh' (Kd.R_lt (qR aG.out)) k_ hk, Kd.fresh' (Kd.R_lt (qR bK.out)) k_ hk⟩))
          (case aO => exact (qR (Kd.R_mono aJ.out (fun _ hk => ⟨hk.1.1, ⟨hk.1.2.1, ⟨hk.1.2.2, hk.2⟩⟩⟩))))
          (case aS => exact (below_size (qW HB.out)))
          (case aL => have := fQ.out; omega)
          intro v205 w52 ho hb hg hat
          rw [← fR.out] at ho
          have n0_ := Aside0.mk (Kd.R_after (ok := (fun k_ => some k_ ≠ (aX : Value).ownBlock ∧ some k_ ≠ (.slice bI aV.length bJ : Value).ownBlock ∧ some k_ ≠ (.slice fC y201.length fD : Value).ownBlock)) (qR (Kd.R_mono aI.out (fun _ hk => ⟨⟨hk.1.1, ⟨hk.1.2.2, hk.2⟩⟩, hk.1.2.1⟩))) hg hat)
          have n1_ := Aside0.mk (Kd.R_after (ok := (fun k_ => some k_ ≠ (aW : Value).ownBlock ∧ some k_ ≠ (.slice bI aV.length bJ : Value).ownBlock ∧ some k_ ≠ (.slice fC y201.length fD : Value).ownBlock)) (qR (Kd.R_mono aH.out (fun _ hk => ⟨⟨hk.1.1, ⟨hk.1.2.2, hk.2⟩⟩, hk.1.2.1⟩))) hg hat)
          have n2_ := Aside0.mk (Kd.R_after (ok := (fun k_ => some k_ ≠ (aW : Value).ownBlock ∧ some k_ ≠ (aX : Value).ownBlock ∧ some k_ ≠ (.slice fC y201.length fD : Value).ownBlock)) (qR (Kd.R_mono aG.out (fun _ hk => ⟨⟨hk.1.1, ⟨hk.1.2.1, hk.2⟩⟩, hk.1.2.2⟩))) hg hat)
          have n3_ := Aside0.mk (blk_grown (qB aC.out) hg (Kd.R_ne aJ.out aC.out (by decide)))
          have n4_ := Aside0.mk (blk_grown (qB aD.out) hg (Kd.R_ne aJ.out aD.out (by decide)))
          have n5_ := Aside0.mk (blk_grown (qB aA.out) hg (Kd.R_ne aJ.out aA.out (by decide)))
          have n6_ := Aside0.mk (Kd.R_after (ok := (fun k_ => some k_ ≠ (aW : Value).ownBlock ∧ some k_ ≠ (aX : Value).ownBlock ∧ some k_ ≠ (.slice bI aV.length bJ : Value).ownBlock)) (qR (Kd.R_mono bK.out (fun _ hk => ⟨⟨hk.1.1.1.2, ⟨hk.1.1.2, hk.2⟩⟩, hk.1.2⟩))) hg hat)
          have n7_ := Aside0.mk (hb)
          have n8_ := Aside0.mk (ho)
          clear aI aH aG aC aD aA bK HB aJ
          have aI := n0_
          have aH := n1_
          have aG := n2_
          have aC := n3_
          have aD := n4_
          have aA := n5_
          have bK := n6_
          have HB := n7_
          have cD := n8_
          clear n0_ n1_ n2_ n3_ n4_ n5_ n6_ n7_ n8_ ho hb hg hat
          refine hK.out _ _ ⟨(blk_cell aA.out 0).trans rfl, (blk_cell aA.out 1).trans rfl, (blk_cell aA.out 2).trans rfl, (blk_cell aA.out 3).trans rfl, (blk_cell aA.out 4).trans rfl⟩ (fun hHeld => ?_); clear hK K
          refine norm_ (a' := ?_) ?_ ?_; rotate_left
          ·show Act.put _ (some 80) _ = _
           simp only [Act.put, List.setIfInBounds_toArray, List.set_cons_zero, List.set_cons_succ, i64_w, i32_w]
           rfl
          refine pS (i := 10) (N := some 86) #[true, true, true, true, true, true, true, true, false, false, true, false, false, false] rfl rfl HT_.out ?_
          refine one_ (i := 8) (N := some 84) #[true, true, true, true, true, true, true, true, true, false, true, false, false, false] rfl rfl (one_of HT_.out (by kernel_rfl)) (by decide) (fun K hK => ?_)
          refine Kd.R_lit_step (Kd.int .i64) _ 3 ?hg (N := 84) ?hd (xs := ([(wrap64 ((wrap64 (t187 + aK)) + aM))] : List Int)) (inner := [.int .i64 (wrap64 ((wrap64 (t187 + aK)) + aM))]) (ok := fun _ => True) (okp := fun _ => True) ?hr ?hp (fun _ hk => hk) trivial (Below.refl _ _) (Nat.le_refl _) (by simp) ?_; (case hd => rfl); (case hg => rfl); (case hr => first | (go_simp; done) | (go_simp; rfl)); (case hp => exact (Reps.one (show Kd.M (Kd.int .i64) _ _ _ (wrap64 ((wrap64 (t187 + aK)) + aM)) [.int .i64 (wrap64 ((wrap64 (t187 + aK)) + aM))] from rfl) (Reps.none _ _)))
          intro v208 w54 dA hb hg_ hnew_
          clear hg_ hnew_
          (first | rw [← eI.out] at dA | (simp only [Int.reduceToNat] at dA; rw [← eI.out] at dA))
          have n0_ := Aside0.mk (Kd.R_elder' (qR aI.out) (Kd.R_base dA) hb)
          have n1_ := Aside0.mk (Kd.R_elder' (qR aH.out) (Kd.R_base dA) hb)
          have n2_ := Aside0.mk (Kd.R_elder' (qR aG.out) (Kd.R_base dA) hb)
          have n3_ := Aside0.mk (Kd.R_elder' (qR bK.out) (Kd.R_base dA) hb)
          have n4_ := Aside0.mk (Kd.R_elder' (qR cD.out) (Kd.R_base dA) hb)
          have n5_ := Aside0.mk (Kd.R_lower (Kd.R_new' (Kd.R_new' (Kd.R_new' (Kd.R_new' (Kd.R_new' dA (Kd.R_lt (qR aI.out))) (Kd.R_lt (qR aH.out))) (Kd.R_lt (qR aG.out))) (Kd.R_lt (qR bK.out))) (Kd.R_lt (qR cD.out))) (below_size (qW HB.out)))
          have n6_ := Aside0.mk (blk_below (qB aC.out) hb)
          have n7_ := Aside0.mk (blk_below (qB aD.out) hb)
          have n8_ := Aside0.mk (blk_below (qB aA.out) hb)
          have n9_ := Aside0.mk (below_step (qW HB.out) hb)
          clear aI aH aG bK cD aC aD aA HB
          have aI := n0_
          have aH := n1_
          have aG := n2_
          have bK := n3_
          have cD := n4_
          have bS := n5_
          have aC := n6_
          have aD := n7_
          have aA := n8_
          have HB := n9_
          clear n0_ n1_ n2_ n3_ n4_ n5_ n6_ n7_ n8_ n9_ hb dA
          refine hK.out _ _ ⟨(blk_cell aA.out 0).trans rfl, (blk_cell aA.out 1).trans rfl, (blk_cell aA.out 2).trans rfl, (blk_cell aA.out 3).trans rfl, (blk_cell aA.out 4).trans rfl⟩ (fun hHeld => ?_); clear hK K
          refine norm_ (a' := ?_) ?_ ?_; rotate_left
          ·show Act.put _ (some 84) _ = _
           simp only [Act.put, List.setIfInBounds_toArray, List.set_cons_zero, List.set_cons_succ, i64_w, i32_w]
           rfl
          exact norm_ (by simp only [putAll, Act.put, List.setIfInBounds_toArray, List.set_cons_zero, List.set_cons_succ]) (hCont (.slice fC y201.length fD, v205, v208) _ ⟨hHeld, (qR (Kd.R_mono bK.out (fun _ hk => ⟨hk.1.2, ⟨hk.2, ⟨hk.1.1.1, ⟨hk.1.1.2.1, hk.1.1.2.2⟩⟩⟩⟩))), (qR (Kd.R_mono cD.out (fun _ hk => ⟨hk.1.2.2.2, ⟨hk.2, ⟨hk.1.1, ⟨hk.1.2.1, hk.1.2.2.1⟩⟩⟩⟩))), (qR (Kd.R_mono bS.out (fun _ hk => ⟨hk.1.2, ⟨hk.2, ⟨hk.1.1.1.1.2, ⟨hk.1.1.1.2, hk.1.1.2⟩⟩⟩⟩))), (qR (Kd.R_mono aI.out (fun _ hk => ⟨hk.1.1.2.2, ⟨hk.1.2, ⟨hk.2, ⟨hk.1.1.1, hk.1.1.2.1⟩⟩⟩⟩))), (qR (Kd.R_mono aH.out (fun _ hk => ⟨hk.1.1.2.2, ⟨hk.1.2, ⟨hk.2, ⟨hk.1.1.1, hk.1.1.2.1⟩⟩⟩⟩))), (qR (Kd.R_mono aG.out (fun _ hk => ⟨hk.1.1.2.2, ⟨hk.1.2, ⟨hk.2, ⟨hk.1.1.1, hk.1.1.2.1⟩⟩⟩⟩))), (qB aC.out), (qB aD.out), (qB aA.out), (qW HB.out)⟩)
         ·skip
          refine Kd.R_lit_step (Kd.int .i64) _ 3 ?hg (N := 84) ?hd (xs := ([(wrap64 ((wrap64 (t187 + aK)) + aM))] : List Int)) (inner := [.int .i64 (wrap64 ((wrap64 (t187 + aK)) + aM))]) (ok := fun _ => True) (okp := fun _ => True) ?hr ?hp (fun _ hk => hk) trivial (Below.refl _ _) (Nat.le_refl _) (by simp) ?_; (case hd => rfl); (case hg => rfl); (case hr => first | (go_simp; done) | (go_simp; rfl)); (case hp => exact (Reps.one (show Kd.M (Kd.int .i64) _ _ _ (wrap64 ((wrap64 (t187 + aK)) + aM)) [.int .i64 (wrap64 ((wrap64 (t187 + aK)) + aM))] from rfl) (Reps.none _ _)))
          intro v208 w52 bV hb hg_ hnew_
          clear hg_ hnew_
          (first | rw [← eI.out] at bV | (simp only [Int.reduceToNat] at bV; rw [← eI.out] at bV))
          have n0_ := Aside0.mk (Kd.R_elder' (qR aI.out) (Kd.R_base bV) hb)
          have n1_ := Aside0.mk (Kd.R_elder' (qR aH.out) (Kd.R_base bV) hb)
          have n2_ := Aside0.mk (Kd.R_elder' (qR aJ.out) (Kd.R_base bV) hb)
          have n3_ := Aside0.mk (Kd.R_elder' (qR aG.out) (Kd.R_base bV) hb)
          have n4_ := Aside0.mk (Kd.R_elder' (qR bK.out) (Kd.R_base bV) hb)
          have n5_ := Aside0.mk (Kd.R_lower (Kd.R_new' (Kd.R_new' (Kd.R_new' (Kd.R_new' (Kd.R_new' bV (Kd.R_lt (qR aI.out))) (Kd.R_lt (qR aH.out))) (Kd.R_lt (qR aJ.out))) (Kd.R_lt (qR aG.out))) (Kd.R_lt (qR bK.out))) (below_size (qW HB.out)))
          have n6_ := Aside0.mk (blk_below (qB aC.out) hb)
          have n7_ := Aside0.mk (blk_below (qB aD.out) hb)
          have n8_ := Aside0.mk (blk_below (qB aA.out) hb)
          have n9_ := Aside0.mk (below_step (qW HB.out) hb)
          clear aI aH aJ aG bK aC aD aA HB
          have aI := n0_
          have aH := n1_
          have aJ := n2_
          have aG := n3_
          have bK := n4_
          have bS := n5_
          have aC := n6_
          have aD := n7_
          have aA := n8_
          have HB := n9_
          clear n0_ n1_ n2_ n3_ n4_ n5_ n6_ n7_ n8_ n9_ hb bV
          obtain ⟨cH, cI, fE⟩ := Kd.R_slice bK.out
          (first | subst fE | (injection fE with f1_ f2_ f3_; have f4_ := f1_.symm; have f5_ := f3_.symm; clear f1_ f2_ f3_; subst f4_; subst f5_))
          refine hK.out _ _ ⟨(blk_cell aA.out 0).trans rfl, (blk_cell aA.out 1).trans rfl, (blk_cell aA.out 2).trans rfl, (blk_cell aA.out 3).trans rfl, (blk_cell aA.out 4).trans rfl⟩ (fun hHeld => ?_); clear hK K
          refine norm_ (a' := ?_) ?_ ?_; rotate_left
          ·show Act.put _ (some 84) _ = _
           simp only [Act.put, List.setIfInBounds_toArray, List.set_cons_zero, List.set_cons_succ, i64_w, i32_w]
           rfl
          refine one_ (i := 4) (N := some 80) #[true, true, true, true, true, true, true, true, true, false, false, false, false, false] rfl rfl (one_of HT_.out (by kernel_rfl)) (by decide) (fun K hK => ?_)
          refine Kd.R_append_rows_step (Kd.int .i64) (w0 := w) w.heap.size (by rfl) (.tmp 77) (.tmp 79) 22 3 (.int .i64 0) 8 rfl Try.underlying22 info3 rfl (by decide) (by omega) (.slice cY bE.length cZ) bE y201 _ _ _ (fun k_ => some k_ ≠ (aW : Value).ownBlock ∧ some k_ ≠ (aX : Value).ownBlock ∧ some k_ ≠ (.slice bI aV.length bJ : Value).ownBlock ∧ some k_ ≠ (.slice cH y201.length cI : Value).ownBlock ∧ some k_ ≠ (v208 : Value).ownBlock) (fun _ => False) rfl rfl ?aO ?aR (fun _ _ h => h) (fun _ h => h.elim) ?aF ?aB ?aS ?aL ?_
          (case aR => repeat (first | exact (Kd.R_reads' bK.out).2.2 | (with_reducible refine Kd.C_alloc ?_ _) | (with_reducible refine Kd.C_drewN ?_ _) | (with_reducible refine Kd.C_drew ?_)))
          (case aB => exact (qW HB.out))
          (case aF => exact (fun k_ hk => ⟨Kd.fresh' (Kd.R_lt (qR aI.out)) k_ hk, Kd.fresh' (Kd.R_lt (qR aH.out)) k_ hk, Kd.fresh' (Kd.R_lt (qR aG.out)) k_ hk, Kd.fresh' (Kd.R_lt (qR bK.out)) k_ hk, Kd.fresh' (Kd.R_lt (qR bS.out)) k_ hk⟩))
          (case aO => exact (qR (Kd.R_mono aJ.out (fun _ hk => ⟨hk.1.1.1, ⟨hk.1.1.2.1, ⟨hk.1.1.2.2, ⟨hk.1.2, hk.2⟩⟩⟩⟩))))
          (case aS => exact (below_size (qW HB.out)))
          (case aL => have := fQ.out; omega)
          intro v205 w54 ho hb hg hat
          rw [← fR.out] at ho
          have n0_ := Aside0.mk (Kd.R_after (ok := (fun k_ => some k_ ≠ (aX : Value).ownBlock ∧ some k_ ≠ (.slice bI aV.length bJ : Value).ownBlock ∧ some k_ ≠ (.slice cH y201.length cI : Value).ownBlock ∧ some k_ ≠ (v208 : Value).ownBlock)) (qR (Kd.R_mono aI.out (fun _ hk => ⟨⟨hk.1.1.1, ⟨hk.1.1.2.2, ⟨hk.1.2, hk.2⟩⟩⟩, hk.1.1.2.1⟩))) hg hat)
          have n1_ := Aside0.mk (Kd.R_after (ok := (fun k_ => some k_ ≠ (aW : Value).ownBlock ∧ some k_ ≠ (.slice bI aV.length bJ : Value).ownBlock ∧ some k_ ≠ (.slice cH y201.length cI : Value).ownBlock ∧ some k_ ≠ (v208 : Value).ownBlock)) (qR (Kd.R_mono aH.out (fun _ hk => ⟨⟨hk.1.1.1, ⟨hk.1.1.2.2, ⟨hk.1.2, hk.2⟩⟩⟩, hk.1.1.2.1⟩))) hg hat)
          have n2_ := Aside0.mk (Kd.R_after (ok := (fun k_ => some k_ ≠ (aW : Value).ownBlock ∧ some k_ ≠ (aX : Value).ownBlock ∧ some k_ ≠ (.slice cH y201.length cI : Value).ownBlock ∧ some k_ ≠ (v208 : Value).ownBlock)) (qR (Kd.R_mono aG.out (fun _ hk => ⟨⟨hk.1.1.1, ⟨hk.1.1.2.1, ⟨hk.1.2, hk.2⟩⟩⟩, hk.1.1.2.2⟩))) hg hat)
          have n3_ := Aside0.mk (blk_grown (qB aC.out) hg (Kd.R_ne aJ.out aC.out (by decide)))
          have n4_ := Aside0.mk (blk_grown (qB aD.out) hg (Kd.R_ne aJ.out aD.out (by decide)))
          have n5_ := Aside0.mk (blk_grown (qB aA.out) hg (Kd.R_ne aJ.out aA.out (by decide)))
          have n6_ := Aside0.mk (Kd.R_after (ok := (fun k_ => some k_ ≠ (aW : Value).ownBlock ∧ some k_ ≠ (aX : Value).ownBlock ∧ some k_ ≠ (.slice bI aV.length bJ : Value).ownBlock ∧ some k_ ≠ (v208 : Value).ownBlock)) (qR (Kd.R_mono bK.out (fun _ hk => ⟨⟨hk.1.1.1.1.2, ⟨hk.1.1.1.2, ⟨hk.1.2, hk.2⟩⟩⟩, hk.1.1.2⟩))) hg hat)
          have n7_ := Aside0.mk (Kd.R_after (ok := (fun k_ => some k_ ≠ (aW : Value).ownBlock ∧ some k_ ≠ (aX : Value).ownBlock ∧ some k_ ≠ (.slice bI aV.length bJ : Value).ownBlock ∧ some k_ ≠ (.slice cH y201.length cI : Value).ownBlock)) (qR (Kd.R_mono bS.out (fun _ hk => ⟨⟨hk.1.1.1.1.2, ⟨hk.1.1.1.2, ⟨hk.1.2, hk.2⟩⟩⟩, hk.1.1.2⟩))) hg hat)
          have n8_ := Aside0.mk (hb)
          have n9_ := Aside0.mk (ho)
          clear aI aH aG aC aD aA bK bS HB aJ
          have aI := n0_
          have aH := n1_
          have aG := n2_
          have aC := n3_
          have aD := n4_
          have aA := n5_
          have bK := n6_
          have bS := n7_
          have HB := n8_
          have cD := n9_
          clear n0_ n1_ n2_ n3_ n4_ n5_ n6_ n7_ n8_ n9_ ho hb hg hat
          refine hK.out _ _ ⟨(blk_cell aA.out 0).trans rfl, (blk_cell aA.out 1).trans rfl, (blk_cell aA.out 2).trans rfl, (blk_cell aA.out 3).trans rfl, (blk_cell aA.out 4).trans rfl⟩ (fun hHeld => ?_); clear hK K
          refine norm_ (a' := ?_) ?_ ?_; rotate_left
          ·show Act.put _ (some 80) _ = _
           simp only [Act.put, List.setIfInBounds_toArray, List.set_cons_zero, List.set_cons_succ, i64_w, i32_w]
           rfl
          refine pS (i := 10) (N := some 86) #[true, true, true, true, true, true, true, true, true, false, true, false, false, false] rfl rfl HT_.out ?_
          exact norm_ (by simp only [putAll, Act.put, List.setIfInBounds_toArray, List.set_cons_zero, List.set_cons_succ]) (hCont (.slice cH y201.length cI, v205, v208) _ ⟨hHeld, (qR (Kd.R_mono bK.out (fun _ hk => ⟨hk.2, ⟨hk.1.2.2.2, ⟨hk.1.1, ⟨hk.1.2.1, hk.1.2.2.1⟩⟩⟩⟩))), (qR (Kd.R_mono cD.out (fun _ hk => ⟨hk.2.2.2.1, ⟨hk.2.2.2.2, ⟨hk.1, ⟨hk.2.1, hk.2.2.1⟩⟩⟩⟩))), (qR (Kd.R_mono bS.out (fun _ hk => ⟨hk.1.2.2.2, ⟨hk.2, ⟨hk.1.1, ⟨hk.1.2.1, hk.1.2.2.1⟩⟩⟩⟩))), (qR (Kd.R_mono aI.out (fun _ hk => ⟨hk.1.2.2.1, ⟨hk.2, ⟨hk.1.2.2.2, ⟨hk.1.1, hk.1.2.1⟩⟩⟩⟩))), (qR (Kd.R_mono aH.out (fun _ hk => ⟨hk.1.2.2.1, ⟨hk.2, ⟨hk.1.2.2.2, ⟨hk.1.1, hk.1.2.1⟩⟩⟩⟩))), (qR (Kd.R_mono aG.out (fun _ hk => ⟨hk.1.2.2.1, ⟨hk.2, ⟨hk.1.2.2.2, ⟨hk.1.1, hk.1.2.1⟩⟩⟩⟩))), (qB aC.out), (qB aD.out), (qB aA.out), (qW HB.out)⟩)
        ·skip
         refine Kd.R_lit_step (Kd.int .i64) _ 3 ?hg (N := 84) ?hd (xs := ([(wrap64 ((wrap64 (t187 + aK)) + aM))] : List Int)) (inner := [.int .i64 (wrap64 ((wrap64 (t187 + aK)) + aM))]) (ok := fun _ => True) (okp := fun _ => True) ?hr ?hp (fun _ hk => hk) trivial (Below.refl _ _) (Nat.le_refl _) (by simp) ?_; (case hd => rfl); (case hg => rfl); (case hr => first | (go_simp; done) | (go_simp; rfl)); (case hp => exact (Reps.one (show Kd.M (Kd.int .i64) _ _ _ (wrap64 ((wrap64 (t187 + aK)) + aM)) [.int .i64 (wrap64 ((wrap64 (t187 + aK)) + aM))] from rfl) (Reps.none _ _)))
         intro v208 w50 bX hb hg_ hnew_
         clear hg_ hnew_
         (first | rw [← eI.out] at bX | (simp only [Int.reduceToNat] at bX; rw [← eI.out] at bX))
         have n0_ := Aside0.mk (Kd.R_elder' (qR aI.out) (Kd.R_base bX) hb)
         have n1_ := Aside0.mk (Kd.R_elder' (qR aH.out) (Kd.R_base bX) hb)
         have n2_ := Aside0.mk (Kd.R_elder' (qR aJ.out) (Kd.R_base bX) hb)
         have n3_ := Aside0.mk (Kd.R_elder' (qR aG.out) (Kd.R_base bX) hb)
         have n4_ := Aside0.mk (Kd.R_lower (Kd.R_new' (Kd.R_new' (Kd.R_new' (Kd.R_new' bX (Kd.R_lt (qR aI.out))) (Kd.R_lt (qR aH.out))) (Kd.R_lt (qR aJ.out))) (Kd.R_lt (qR aG.out))) (below_size (qW HB.out)))
         have n5_ := Aside0.mk (blk_below (qB aC.out) hb)
         have n6_ := Aside0.mk (blk_below (qB aD.out) hb)
         have n7_ := Aside0.mk (blk_below (qB aA.out) hb)
         have n8_ := Aside0.mk (below_step (qW HB.out) hb)
         clear aI aH aJ aG aC aD aA HB
         have aI := n0_
         have aH := n1_
         have aJ := n2_
         have aG := n3_
         have bS := n4_
         have aC := n5_
         have aD := n6_
         have aA := n7_
         have HB := n8_
         clear n0_ n1_ n2_ n3_ n4_ n5_ n6_ n7_ n8_ hb bX
         refine hK.out _ _ ⟨(blk_cell aA.out 0).trans rfl, (blk_cell aA.out 1).trans rfl, (blk_cell aA.out 2).trans rfl, (blk_cell aA.out 3).trans rfl, (blk_cell aA.out 4).trans rfl⟩ (fun hHeld => ?_); clear hK K
         refine norm_ (a' := ?_) ?_ ?_; rotate_left
         ·show Act.put _ (some 84) _ = _
          simp only [Act.put, List.setIfInBounds_toArray, List.set_cons_zero, List.set_cons_succ, i64_w, i32_w]
          rfl
         refine one_ (i := 3) (N := some 79) #[true, true, true, true, false, true, true, true, true, false, false, false, false, false] rfl rfl (one_of HT_.out (by kernel_rfl)) (by decide) (fun K hK => ?_)
         refine Kd.R_lit_step (Kd.int .i64) _ 3 ?hg (N := 79) ?hd (xs := ([t187] : List Int)) (inner := [.int .i64 t187]) (ok := fun _ => True) (okp := fun _ => True) ?hr ?hp (fun _ hk => hk) trivial (Below.refl _ _) (Nat.le_refl _) (by simp) ?_; (case hd => rfl); (case hg => rfl); (case hr => first | (go_simp; done) | (go_simp; rfl)); (case hp => exact (Reps.one (show Kd.M (Kd.int .i64) _ _ _ t187 [.int .i64 t187] from rfl) (Reps.none _ _)))
         intro v202 w52 bV hb hg_ hnew_
         clear hg_ hnew_
         (first | rw [← fL.out] at bV | (simp only [Int.reduceToNat] at bV; rw [← fL.out] at bV))
         have n0_ := Aside0.mk (Kd.R_elder' (qR aI.out) (Kd.R_base bV) hb)
         have n1_ := Aside0.mk (Kd.R_elder' (qR aH.out) (Kd.R_base bV) hb)
         have n2_ := Aside0.mk (Kd.R_elder' (qR aJ.out) (Kd.R_base bV) hb)
         have n3_ := Aside0.mk (Kd.R_elder' (qR aG.out) (Kd.R_base bV) hb)
         have n4_ := Aside0.mk (Kd.R_elder' (qR bS.out) (Kd.R_base bV) hb)
         have n5_ := Aside0.mk (Kd.R_lower (Kd.R_new' (Kd.R_new' (Kd.R_new' (Kd.R_new' (Kd.R_new' bV (Kd.R_lt (qR aI.out))) (Kd.R_lt (qR aH.out))) (Kd.R_lt (qR aJ.out))) (Kd.R_lt (qR aG.out))) (Kd.R_lt (qR bS.out))) (below_size (qW HB.out)))
         have n6_ := Aside0.mk (blk_below (qB aC.out) hb)
         have n7_ := Aside0.mk (blk_below (qB aD.out) hb)
         have n8_ := Aside0.mk (blk_below (qB aA.out) hb)
         have n9_ := Aside0.mk (below_step (qW HB.out) hb)
         clear aI aH aJ aG bS aC aD aA HB
         have aI := n0_
         have aH := n1_
         have aJ := n2_
         have aG := n3_
         have bS := n4_
         have bK := n5_
         have aC := n6_
         have aD := n7_
         have aA := n8_
         have HB := n9_
         clear n0_ n1_ n2_ n3_ n4_ n5_ n6_ n7_ n8_ n9_ hb bV
         obtain ⟨cH, cI, fE⟩ := Kd.R_slice bK.out
         (first | subst fE | (injection fE with f1_ f2_ f3_; have f4_ := f1_.symm; have f5_ := f3_.symm; clear f1_ f2_ f3_; subst f4_; subst f5_))
         refine hK.out _ _ ⟨(blk_cell aA.out 0).trans rfl, (blk_cell aA.out 1).trans rfl, (blk_cell aA.out 2).trans rfl, (blk_cell aA.out 3).trans rfl, (blk_cell aA.out 4).trans rfl⟩ (fun hHeld => ?_); clear hK K
         refine norm_ (a' := ?_) ?_ ?_; rotate_left
         ·show Act.put _ (some 79) _ = _
          simp only [Act.put, List.setIfInBounds_toArray, List.set_cons_zero, List.set_cons_succ, i64_w, i32_w]
          rfl
         refine one_ (i := 4) (N := some 80) #[true, true, true, true, true, true, true, true, true, false, false, false, false, false] rfl rfl (one_of HT_.out (by kernel_rfl)) (by decide) (fun K hK => ?_)
         refine Kd.R_append_rows_step (Kd.int .i64) (w0 := w) w.heap.size (by rfl) (.tmp 77) (.tmp 79) 22 3 (.int .i64 0) 8 rfl Try.underlying22 info3 rfl (by decide) (by omega) (.slice cY bE.length cZ) bE y201 _ _ _ (fun k_ => some k_ ≠ (aW : Value).ownBlock ∧ some k_ ≠ (aX : Value).ownBlock ∧ some k_ ≠ (.slice bI aV.length bJ : Value).ownBlock ∧ some k_ ≠ (v208 : Value).ownBlock ∧ some k_ ≠ (.slice cH y201.length cI : Value).ownBlock) (fun _ => False) rfl rfl ?aO ?aR (fun _ _ h => h) (fun _ h => h.elim) ?aF ?aB ?aS ?aL ?_
         (case aR => repeat (first | exact (Kd.R_reads' bK.out).2.2 | (with_reducible refine Kd.C_alloc ?_ _) | (with_reducible refine Kd.C_drewN ?_ _) | (with_reducible refine Kd.C_drew ?_)))
         (case aB => exact (qW HB.out))
         (case aF => exact (fun k_ hk => ⟨Kd.fresh' (Kd.R_lt (qR aI.out)) k_ hk, Kd.fresh' (Kd.R_lt (qR aH.out)) k_ hk, Kd.fresh' (Kd.R_lt (qR aG.out)) k_ hk, Kd.fresh' (Kd.R_lt (qR bS.out)) k_ hk, Kd.fresh' (Kd.R_lt (qR bK.out)) k_ hk⟩))
         (case aO => exact (qR (Kd.R_mono aJ.out (fun _ hk => ⟨hk.1.1.1, ⟨hk.1.1.2.1, ⟨hk.1.1.2.2, ⟨hk.1.2, hk.2⟩⟩⟩⟩))))
         (case aS => exact (below_size (qW HB.out)))
         (case aL => have := fQ.out; omega)
         intro v205 w54 ho hb hg hat
         rw [← fR.out] at ho
         have n0_ := Aside0.mk (Kd.R_after (ok := (fun k_ => some k_ ≠ (aX : Value).ownBlock ∧ some k_ ≠ (.slice bI aV.length bJ : Value).ownBlock ∧ some k_ ≠ (v208 : Value).ownBlock ∧ some k_ ≠ (.slice cH y201.length cI : Value).ownBlock)) (qR (Kd.R_mono aI.out (fun _ hk => ⟨⟨hk.1.1.1, ⟨hk.1.1.2.2, ⟨hk.1.2, hk.2⟩⟩⟩, hk.1.1.2.1⟩))) hg hat)
         have n1_ := Aside0.mk (Kd.R_after (ok := (fun k_ => some k_ ≠ (aW : Value).ownBlock ∧ some k_ ≠ (.slice bI aV.length bJ : Value).ownBlock ∧ some k_ ≠ (v208 : Value).ownBlock ∧ some k_ ≠ (.slice cH y201.length cI : Value).ownBlock)) (qR (Kd.R_mono aH.out (fun _ hk => ⟨⟨hk.1.1.1, ⟨hk.1.1.2.2, ⟨hk.1.2, hk.2⟩⟩⟩, hk.1.1.2.1⟩))) hg hat)
         have n2_ := Aside0.mk (Kd.R_after (ok := (fun k_ => some k_ ≠ (aW : Value).ownBlock ∧ some k_ ≠ (aX : Value).ownBlock ∧ some k_ ≠ (v208 : Value).ownBlock ∧ some k_ ≠ (.slice cH y201.length cI : Value).ownBlock)) (qR (Kd.R_mono aG.out (fun _ hk => ⟨⟨hk.1.1.1, ⟨hk.1.1.2.1, ⟨hk.1.2, hk.2⟩⟩⟩, hk.1.1.2.2⟩))) hg hat)
         have n3_ := Aside0.mk (blk_grown (qB aC.out) hg (Kd.R_ne aJ.out aC.out (by decide)))
         have n4_ := Aside0.mk (blk_grown (qB aD.out) hg (Kd.R_ne aJ.out aD.out (by decide)))
         have n5_ := Aside0.mk (blk_grown (qB aA.out) hg (Kd.R_ne aJ.out aA.out (by decide)))
         have n6_ := Aside0.mk (Kd.R_after (ok := (fun k_ => some k_ ≠ (aW : Value).ownBlock ∧ some k_ ≠ (aX : Value).ownBlock ∧ some k_ ≠ (.slice bI aV.length bJ : Value).ownBlock ∧ some k_ ≠ (.slice cH y201.length cI : Value).ownBlock)) (qR (Kd.R_mono bS.out (fun _ hk => ⟨⟨hk.1.1.1.1.2, ⟨hk.1.1.1.2, ⟨hk.1.2, hk.2⟩⟩⟩, hk.1.1.2⟩))) hg hat)
         have n7_ := Aside0.mk (Kd.R_after (ok := (fun k_ => some k_ ≠ (aW : Value).ownBlock ∧ some k_ ≠ (aX : Value).ownBlock ∧ some k_ ≠ (.slice bI aV.length bJ : Value).ownBlock ∧ some k_ ≠ (v208 : Value).ownBlock)) (qR (Kd.R_mono bK.out (fun _ hk => ⟨⟨hk.1.1.1.1.2, ⟨hk.1.1.1.2, ⟨hk.1.2, hk.2⟩⟩⟩, hk.1.1.2⟩))) hg hat)
         have n8_ := Aside0.mk (hb)
         have n9_ := Aside0.mk (ho)
         clear aI aH aG aC aD aA bS bK HB aJ
         have aI := n0_
         have aH := n1_
         have aG := n2_
         have aC := n3_
         have aD := n4_
         have aA := n5_
         have bS := n6_
         have bK := n7_
         have HB := n8_
         have cD := n9_
         clear n0_ n1_ n2_ n3_ n4_ n5_ n6_ n7_ n8_ n9_ ho hb hg hat
         refine hK.out _ _ ⟨(blk_cell aA.out 0).trans rfl, (blk_cell aA.out 1).trans rfl, (blk_cell aA.out 2).trans rfl, (blk_cell aA.out 3).trans rfl, (blk_cell aA.out 4).trans rfl⟩ (fun hHeld => ?_); clear hK K
         refine norm_ (a' := ?_) ?_ ?_; rotate_left
         ·show Act.put _ (some 80) _ = _
          simp only [Act.put, List.setIfInBounds_toArray, List.set_cons_zero, List.set_cons_succ, i64_w, i32_w]
          rfl
         refine pS (i := 10) (N := some 86) #[true, true, true, true, true, true, true, true, true, false, true, false, false, false] rfl rfl HT_.out ?_
         exact norm_ (by simp only [putAll, Act.put, List.setIfInBounds_toArray, List.set_cons_zero, List.set_cons_succ]) (hCont (.slice cH y201.length cI, v205, v208) _ ⟨hHeld, (qR (Kd.R_mono bK.out (fun _ hk => ⟨hk.2, ⟨hk.1.2.2.2, ⟨hk.1.1, ⟨hk.1.2.1, hk.1.2.2.1⟩⟩⟩⟩))), (qR (Kd.R_mono cD.out (fun _ hk => ⟨hk.2.2.2.2, ⟨hk.2.2.2.1, ⟨hk.1, ⟨hk.2.1, hk.2.2.1⟩⟩⟩⟩))), (qR (Kd.R_mono bS.out (fun _ hk => ⟨hk.1.2.2.2, ⟨hk.2, ⟨hk.1.1, ⟨hk.1.2.1, hk.1.2.2.1⟩⟩⟩⟩))), (qR (Kd.R_mono aI.out (fun _ hk => ⟨hk.1.2.2.2, ⟨hk.2, ⟨hk.1.2.2.1, ⟨hk.1.1, hk.1.2.1⟩⟩⟩⟩))), (qR (Kd.R_mono aH.out (fun _ hk => ⟨hk.1.2.2.2, ⟨hk.2, ⟨hk.1.2.2.1, ⟨hk.1.1, hk.1.2.1⟩⟩⟩⟩))), (qR (Kd.R_mono aG.out (fun _ hk => ⟨hk.1.2.2.2, ⟨hk.2, ⟨hk.1.2.2.1, ⟨hk.1.1, hk.1.2.1⟩⟩⟩⟩))), (qB aC.out), (qB aD.out), (qB aA.out), (qW HB.out)⟩)
       rintro ⟨v202, v205, v208⟩ w56 ⟨hS_, h0_, h1_, h2_, h3_, h4_, h5_, h6_, h7_, h8_, h9_⟩
       have n0_ : Aside0 (Kd.R (Kd.int .i64) 3 w56 w.heap.size (fun k_ => some k_ ≠ (v205 : Value).ownBlock ∧ some k_ ≠ (v208 : Value).ownBlock ∧ some k_ ≠ (aW : Value).ownBlock ∧ some k_ ≠ (aX : Value).ownBlock ∧ some k_ ≠ (.slice bI aV.length bJ : Value).ownBlock) v202 y201) := ⟨h0_⟩
       have n1_ : Aside0 (Kd.R (Kd.int .i64) 3 w56 w.heap.size (fun k_ => some k_ ≠ (v202 : Value).ownBlock ∧ some k_ ≠ (v208 : Value).ownBlock ∧ some k_ ≠ (aW : Value).ownBlock ∧ some k_ ≠ (aX : Value).ownBlock ∧ some k_ ≠ (.slice bI aV.length bJ : Value).ownBlock) v205 y204) := ⟨h1_⟩
       have n2_ : Aside0 (Kd.R (Kd.int .i64) 3 w56 w.heap.size (fun k_ => some k_ ≠ (v202 : Value).ownBlock ∧ some k_ ≠ (v205 : Value).ownBlock ∧ some k_ ≠ (aW : Value).ownBlock ∧ some k_ ≠ (aX : Value).ownBlock ∧ some k_ ≠ (.slice bI aV.length bJ : Value).ownBlock) v208 y207) := ⟨h2_⟩
       have n3_ : Aside0 (Kd.R (Kd.int .i64) 3 w56 w.heap.size (fun k_ => some k_ ≠ (v202 : Value).ownBlock ∧ some k_ ≠ (v205 : Value).ownBlock ∧ some k_ ≠ (v208 : Value).ownBlock ∧ some k_ ≠ (aX : Value).ownBlock ∧ some k_ ≠ (.slice bI aV.length bJ : Value).ownBlock) aW bZ) := ⟨h3_⟩
       have n4_ : Aside0 (Kd.R (Kd.int .i64) 3 w56 w.heap.size (fun k_ => some k_ ≠ (v202 : Value).ownBlock ∧ some k_ ≠ (v205 : Value).ownBlock ∧ some k_ ≠ (v208 : Value).ownBlock ∧ some k_ ≠ (aW : Value).ownBlock ∧ some k_ ≠ (.slice bI aV.length bJ : Value).ownBlock) aX cA) := ⟨h4_⟩
       have n5_ : Aside0 (Kd.R (Kd.int .i64) 3 w56 w.heap.size (fun k_ => some k_ ≠ (v202 : Value).ownBlock ∧ some k_ ≠ (v205 : Value).ownBlock ∧ some k_ ≠ (v208 : Value).ownBlock ∧ some k_ ≠ (aW : Value).ownBlock ∧ some k_ ≠ (aX : Value).ownBlock) (.slice bI aV.length bJ) aV) := ⟨h5_⟩
       have n6_ : Aside0 (w56.heap[bA]? = some (.cells #[.slice bN aP.length bO, .slice bP aZ.length bQ, .int .i64 aE, .int .i64 aK, .int .i64 aM] 24 (0, 0))) := ⟨h6_⟩
       have n7_ : Aside0 (w56.heap[aQ]? = some (.cells #[.slice none 0 0, .slice none 0 0, .slice none 0 0, .slice none 0 0, .int .i64 bL] 28 (0, 0))) := ⟨h7_⟩
       have n8_ : Aside0 (w56.heap[aN]? = some (.cells #[aW, aX, .slice cY bE.length cZ, .slice bI aV.length bJ, .int .i64 bC] 28 (0, 0))) := ⟨h8_⟩
       have n9_ : Aside0 (Below w.heap.size w w56) := ⟨h9_⟩
       clear aI aH aJ aG aC aD aA HB h0_ h1_ h2_ h3_ h4_ h5_ h6_ h7_ h8_ h9_
       have bK := n0_
       have cD := n1_
       have bS := n2_
       have aI := n3_
       have aH := n4_
       have aG := n5_
       have aC := n6_
       have aD := n7_
       have aA := n8_
       have HB := n9_
       clear n0_ n1_ n2_ n3_ n4_ n5_ n6_ n7_ n8_ n9_
       have hHeld : w56.cell? ⟨aN, 0, none⟩ = some (aW) ∧ w56.cell? ⟨aN, 1, none⟩ = some (aX) ∧ w56.cell? ⟨aN, 2, none⟩ = some (.slice cY bE.length cZ) ∧ w56.cell? ⟨aN, 3, none⟩ = some (.slice bI aV.length bJ) ∧ w56.cell? ⟨aN, 4, none⟩ = some (.int .i64 bC) := hS_
       obtain ⟨fF, fG, gH⟩ := Kd.R_slice bS.out
       (first | subst gH | (injection gH with f1_ f2_ f3_; have f4_ := f1_.symm; have f5_ := f3_.symm; clear f1_ f2_ f3_; subst f4_; subst f5_))
       refine norm_ (a' := ?_) ?_ ?_; rotate_left
       ·simp only [putAll, Act.put, List.setIfInBounds_toArray, List.set_cons_zero, List.set_cons_succ]
        rfl
       refine one_ (i := 9) (N := some 85) #[true, true, true, true, true, true, true, true, true, true, true, false, false, false] rfl rfl (one_of HT_.out (by kernel_rfl)) (by decide) (fun K hK => ?_)
       refine Kd.R_append_rows_step (Kd.int .i64) (w0 := w) w.heap.size (by rfl) (.tmp 82) (.tmp 84) 22 3 (.int .i64 0) 8 rfl Try.underlying22 info3 rfl (by decide) (by omega) (.slice bI aV.length bJ) aV y207 _ _ _ (fun k_ => some k_ ≠ (aW : Value).ownBlock ∧ some k_ ≠ (aX : Value).ownBlock ∧ some k_ ≠ (v202 : Value).ownBlock ∧ some k_ ≠ (v205 : Value).ownBlock ∧ some k_ ≠ (.slice fF y207.length fG : Value).ownBlock) (fun _ => False) rfl rfl ?aO ?aR (fun _ _ h => h) (fun _ h => h.elim) ?aF ?aB ?aS ?aL ?_
       (case aR => repeat (first | exact (Kd.R_reads' bS.out).2.2 | (with_reducible refine Kd.C_alloc ?_ _) | (with_reducible refine Kd.C_drewN ?_ _) | (with_reducible refine Kd.C_drew ?_)))
       (case aB => exact (qW HB.out))
       (case aF => exact (fun k_ hk => ⟨Kd.fresh' (Kd.R_lt (qR aI.out)) k_ hk, Kd.fresh' (Kd.R_lt (qR aH.out)) k_ hk, Kd.fresh' (Kd.R_lt (qR bK.out)) k_ hk, Kd.fresh' (Kd.R_lt (qR cD.out)) k_ hk, Kd.fresh' (Kd.R_lt (qR bS.out)) k_ hk⟩))
       (case aO => exact (qR (Kd.R_mono aG.out (fun _ hk => ⟨hk.2.2.2.1, ⟨hk.2.2.2.2, ⟨hk.1, ⟨hk.2.1, hk.2.2.1⟩⟩⟩⟩))))
       (case aS => exact (below_size (qW HB.out)))
       (case aL => have := hZ.out; omega)
       intro v211 w57 ho hb hg hat
       rw [← iA.out] at ho
       have n0_ := Aside0.mk (Kd.R_after (ok := (fun k_ => some k_ ≠ (aX : Value).ownBlock ∧ some k_ ≠ (v202 : Value).ownBlock ∧ some k_ ≠ (v205 : Value).ownBlock ∧ some k_ ≠ (.slice fF y207.length fG : Value).ownBlock)) (qR (Kd.R_mono aI.out (fun _ hk => ⟨⟨hk.2.2.2.1, ⟨hk.1, ⟨hk.2.1, hk.2.2.1⟩⟩⟩, hk.2.2.2.2⟩))) hg hat)
       have n1_ := Aside0.mk (Kd.R_after (ok := (fun k_ => some k_ ≠ (aW : Value).ownBlock ∧ some k_ ≠ (v202 : Value).ownBlock ∧ some k_ ≠ (v205 : Value).ownBlock ∧ some k_ ≠ (.slice fF y207.length fG : Value).ownBlock)) (qR (Kd.R_mono aH.out (fun _ hk => ⟨⟨hk.2.2.2.1, ⟨hk.1, ⟨hk.2.1, hk.2.2.1⟩⟩⟩, hk.2.2.2.2⟩))) hg hat)
       have n2_ := Aside0.mk (blk_grown (qB aC.out) hg (Kd.R_ne aG.out aC.out (by decide)))
       have n3_ := Aside0.mk (blk_grown (qB aD.out) hg (Kd.R_ne aG.out aD.out (by decide)))
       have n4_ := Aside0.mk (blk_grown (qB aA.out) hg (Kd.R_ne aG.out aA.out (by decide)))
       have n5_ := Aside0.mk (Kd.R_after (ok := (fun k_ => some k_ ≠ (aW : Value).ownBlock ∧ some k_ ≠ (aX : Value).ownBlock ∧ some k_ ≠ (v205 : Value).ownBlock ∧ some k_ ≠ (.slice fF y207.length fG : Value).ownBlock)) (qR (Kd.R_mono bK.out (fun _ hk => ⟨⟨hk.2.2.1, ⟨hk.2.2.2.1, ⟨hk.1, hk.2.1⟩⟩⟩, hk.2.2.2.2⟩))) hg hat)
       have n6_ := Aside0.mk (Kd.R_after (ok := (fun k_ => some k_ ≠ (aW : Value).ownBlock ∧ some k_ ≠ (aX : Value).ownBlock ∧ some k_ ≠ (v202 : Value).ownBlock ∧ some k_ ≠ (.slice fF y207.length fG : Value).ownBlock)) (qR (Kd.R_mono cD.out (fun _ hk => ⟨⟨hk.2.2.1, ⟨hk.2.2.2.1, ⟨hk.1, hk.2.1⟩⟩⟩, hk.2.2.2.2⟩))) hg hat)
       have n7_ := Aside0.mk (Kd.R_after (ok := (fun k_ => some k_ ≠ (aW : Value).ownBlock ∧ some k_ ≠ (aX : Value).ownBlock ∧ some k_ ≠ (v202 : Value).ownBlock ∧ some k_ ≠ (v205 : Value).ownBlock)) (qR (Kd.R_mono bS.out (fun _ hk => ⟨⟨hk.2.2.1, ⟨hk.2.2.2.1, ⟨hk.1, hk.2.1⟩⟩⟩, hk.2.2.2.2⟩))) hg hat)
       have n8_ := Aside0.mk (hb)
       have n9_ := Aside0.mk (ho)
       clear aI aH aC aD aA bK cD bS HB aG
       have aI := n0_
       have aH := n1_
       have aC := n2_
       have aD := n3_
       have aA := n4_
       have bK := n5_
       have cD := n6_
       have bS := n7_
       have HB := n8_
       have gI := n9_
       clear n0_ n1_ n2_ n3_ n4_ n5_ n6_ n7_ n8_ n9_ ho hb hg hat
       obtain ⟨eJ, eK, gJ⟩ := Kd.R_slice cD.out
       (first | subst gJ | (injection gJ with f1_ f2_ f3_; have f4_ := f1_.symm; have f5_ := f3_.symm; clear f1_ f2_ f3_; subst f4_; subst f5_))
       obtain ⟨fH, fI, gK⟩ := Kd.R_slice gI.out
       (first | subst gK | (injection gK with f1_ f2_ f3_; have f4_ := f1_.symm; have f5_ := f3_.symm; clear f1_ f2_ f3_; subst f4_; subst f5_))
       refine hK.out _ _ ⟨(blk_cell aA.out 0).trans rfl, (blk_cell aA.out 1).trans rfl, (blk_cell aA.out 2).trans rfl, (blk_cell aA.out 3).trans rfl, (blk_cell aA.out 4).trans rfl⟩ (fun hHeld => ?_); clear hK K
       refine norm_ (a' := ?_) ?_ ?_; rotate_left
       ·show Act.put _ (some 85) _ = _
        simp only [Act.put, List.setIfInBounds_toArray, List.set_cons_zero, List.set_cons_succ, i64_w, i32_w]
        rfl
       refine last_ (i := 11) (N := none) #[true, true, true, true, true, true, true, true, true, true, true, true, false, false] rfl rfl (one_of HT_.out (by kernel_rfl)) (by decide) (fun K hK => ?_)
       have hs60 : w57.cell? ⟨aN, 2, none⟩ = some (.slice cY bE.length cZ) := (blk_cell aA.out 2).trans rfl
       have hfs60 := blk_frozen aA.out 2
       have hns60_0 := bY.out
       have hns60_1 := cB.out
       have hms60_0 := cK.out
       have hms60_1 := cT.out
       refine skip_ (w1 := ?_) (by rfl) rfl ?_ ?_; rotate_left
       ·go_simp
        rfl
       refine hK.out _ _ ?_; clear hK K
       refine pS (i := 12) (N := some 87) #[true, true, true, true, true, true, true, true, true, true, true, true, true, false] rfl rfl HT_.out ?_
       refine last_ (i := 13) (N := none) #[true, true, true, true, true, true, true, true, true, true, true, true, true, true] rfl rfl (one_of HT_.out (by kernel_rfl)) (by decide) (fun K hK => ?_)
       have hs62 : w57.cell? ⟨aN, 3, none⟩ = some (.slice bI aV.length bJ) := (blk_cell aA.out 3).trans rfl
       have hfs62 := blk_frozen aA.out 3
       have hns62_0 := bY.out
       have hns62_1 := cB.out
       have hms62_0 := cK.out
       have hms62_1 := cT.out
       refine skip_ (w1 := ?_) (by rfl) rfl ?_ ?_; rotate_left
       ·go_simp
        rfl
       refine hK.out _ _ ?_; clear hK K
       refine done_ (done_of HT_.out (by kernel_rfl)) ?_
       try go_wp2
       go_meet
       case rel => exact ⟨_, (y204), (y210), (.slice eJ y204.length eK), (.slice fH y210.length fI), H', ⟨by have := HK1.out; have := dU.out; first | omega | exact Nat.le_refl _⟩, ⟨by exact qR (Kd.R_mono (Kd.R_far (p := ⟨aN, 3, none⟩) (Kd.R_far (p := ⟨aN, 2, none⟩) (Kd.R_types aI.out aA.out (by decide)) (fun _ hk => hk.2) (.slice eJ y204.length eK)) (fun _ hk => hk.2) (.slice fH y210.length fI)) (fun _ hk => ⟨hk.1.1.1, ⟨hk.1.1.2.2.1, hk.1.2⟩⟩))⟩, ⟨by exact qR (Kd.R_mono (Kd.R_far (p := ⟨aN, 3, none⟩) (Kd.R_far (p := ⟨aN, 2, none⟩) (Kd.R_types aH.out aA.out (by decide)) (fun _ hk => hk.2) (.slice eJ y204.length eK)) (fun _ hk => hk.2) (.slice fH y210.length fI)) (fun _ hk => ⟨hk.1.1.1, ⟨hk.1.1.2.2.1, hk.1.2⟩⟩))⟩, ⟨by exact qR (Kd.R_mono (Kd.R_far (p := ⟨aN, 3, none⟩) (Kd.R_far (p := ⟨aN, 2, none⟩) (Kd.R_types cD.out aA.out (by decide)) (fun _ hk => hk.2) (.slice eJ y204.length eK)) (fun _ hk => hk.2) (.slice fH y210.length fI)) (fun _ hk => ⟨hk.1.1.1, ⟨hk.1.1.2.1, hk.1.2⟩⟩))⟩, ⟨by exact qR (Kd.R_mono (Kd.R_far (p := ⟨aN, 3, none⟩) (Kd.R_far (p := ⟨aN, 2, none⟩) (Kd.R_types gI.out aA.out (by decide)) (fun _ hk => hk.2) (.slice eJ y204.length eK)) (fun _ hk => hk.2) (.slice fH y210.length fI)) (fun _ hk => ⟨hk.1.1, ⟨hk.1.2.1, hk.1.2.2.2.1⟩⟩))⟩, ⟨by (with_reducible repeat (first | refine blk_drewN ?_ _ | refine blk_drew ?_ | refine blk_alloc ?_ _)); refine blk_far ?_ bY.out _; (with_reducible repeat (first | refine blk_drewN ?_ _ | refine blk_drew ?_ | refine blk_alloc ?_ _)); refine blk_far ?_ bY.out _; exact qB aC.out⟩, ⟨by (with_reducible repeat (first | refine blk_drewN ?_ _ | refine blk_drew ?_ | refine blk_alloc ?_ _)); refine blk_far ?_ cB.out _; (with_reducible repeat (first | refine blk_drewN ?_ _ | refine blk_drew ?_ | refine blk_alloc ?_ _)); refine blk_far ?_ cB.out _; exact qB aD.out⟩, ⟨by (with_reducible repeat (first | refine blk_drewN ?_ _ | refine blk_drew ?_ | refine blk_alloc ?_ _)); refine blk_put (cs := #[aW, aX, .slice eJ y204.length eK, .slice bI aV.length bJ, .int .i64 bC]) ?_ 3 _ rfl; (with_reducible repeat (first | refine blk_drewN ?_ _ | refine blk_drew ?_ | refine blk_alloc ?_ _)); refine blk_put (cs := #[aW, aX, .slice cY bE.length cZ, .slice bI aV.length bJ, .int .i64 bC]) ?_ 2 _ rfl; exact qB aA.out⟩, ⟨by repeat (first | (with_reducible first | exact HB.out | apply below_alloc | apply pw_below_drewN | apply below_drew1 | refine below_set ?_ cO.out | refine below_set ?_ cP.out | refine below_set ?_ dE.out) | exact HB.out)⟩⟩
      case rest =>
       clear fP
       try clear p2
       try clear c4
       try clear p6
       try clear c45
       try clear c46
       obtain ⟨kq, cX, bT, aY, bB, HA, eL, aI, aH, aJ, aG, aC, aD, aA, HB⟩ := hcut
       cases kq with
       | zero => exact absurd HA.out (by simp [standbyref56_Plan.j2])
       | succ dV =>
        have H := HA.out
        clear HA
        simp only [standbyref56_Plan.j2] at H
        by_cases c63 : aT = 0
        ·rw [if_pos c63] at H
         have iD : (aT == 0) = true := beq_iff_eq.mpr c63
         have iE : (aT != 0) = false := bne_eq_false_iff_eq.mpr c63
         clear c63
         obtain ⟨ji64, fS⟩ : ∃ j_ : Int, (mx bC (wrap64 ((wrap64 ((wrap64 ((wrap64 (t187 + aK)) + aM)) - 1)) - bM))) = j_ := ⟨_, rfl⟩
         replace H : (standbyref56_Plan.l0 dV (wrap64 (Int.tdiv (wrap64 ((wrap64 ((aP.length : Int) + aE)) - 1)) aE)) t187 (wrap64 ((wrap64 (aT + 1)) * aE)) (wrap64 (aT + 1)) aP aZ aE aK aM bZ cA cX bT ji64) = some (r1, r2, r3, r4, r5, r6) := by first | (rw [fS] at H; exact H) | (simp only [fS] at H ⊢; exact H)
         have nV : (if bC < (wrap64 ((wrap64 ((wrap64 ((wrap64 (t187 + aK)) + aM)) - 1)) - bM)) then (wrap64 ((wrap64 ((wrap64 ((wrap64 (t187 + aK)) + aM)) - 1)) - bM)) else bC) = ji64 := fS
         have H' := Aside0.mk H
         clear H
         have nW := cK.out
         have nX := bY.out
         have nY := cT.out
         have nZ := cB.out
         have oA : wc.cell? ⟨aN, 0, none⟩ = some (aW) := (blk_cell aA.out 0).trans rfl
         have oB : wc.cell? ⟨aN, 1, none⟩ = some (aX) := (blk_cell aA.out 1).trans rfl
         have oC : wc.cell? ⟨aN, 2, none⟩ = some (aY) := (blk_cell aA.out 2).trans rfl
         have oD : wc.cell? ⟨aN, 3, none⟩ = some (bB) := (blk_cell aA.out 3).trans rfl
         have oE : wc.cell? ⟨aN, 4, none⟩ = some (.int .i64 bC) := (blk_cell aA.out 4).trans rfl
         have oF := blk_frozen aA.out 0
         have oG := blk_frozen aA.out 1
         have oH := blk_frozen aA.out 2
         have oI := blk_frozen aA.out 3
         have oJ := blk_frozen aA.out 4
         go_wp2
         go_roundg dV
         case measure => have := HK1.out; have := dU.out; have := eL.out; omega
         case rel => exact ⟨(t187), ((wrap64 ((wrap64 (aT + 1)) * aE))), (wrap64 (aT + 1)), (bL), (bZ), (cA), (cX), (bT), (ji64), (aW), (aX), (aY), (bB), (by first | rfl | (simp; done) | (simp [*]; done)), (by first | rfl | (simp; done) | (simp [*]; done)), (by first | rfl | (simp; done) | (simp [*]; done)), H', ⟨by have := HK1.out; have := dU.out; have := eL.out; omega⟩, ⟨by exact qR (Kd.R_mono (Kd.R_far (p := ⟨aN, 4, none⟩) (Kd.R_types aI.out aA.out (by decide)) (fun _ hk => hk.2) (.int .i64 ji64)) (fun _ hk => ⟨hk.1.1, ⟨hk.1.2.1, hk.1.2.2⟩⟩))⟩, ⟨by exact qR (Kd.R_mono (Kd.R_far (p := ⟨aN, 4, none⟩) (Kd.R_types aH.out aA.out (by decide)) (fun _ hk => hk.2) (.int .i64 ji64)) (fun _ hk => ⟨hk.1.1, ⟨hk.1.2.1, hk.1.2.2⟩⟩))⟩, ⟨by exact qR (Kd.R_mono (Kd.R_far (p := ⟨aN, 4, none⟩) (Kd.R_types aJ.out aA.out (by decide)) (fun _ hk => hk.2) (.int .i64 ji64)) (fun _ hk => ⟨hk.1.1, ⟨hk.1.2.1, hk.1.2.2⟩⟩))⟩, ⟨by exact qR (Kd.R_mono (Kd.R_far (p := ⟨aN, 4, none⟩) (Kd.R_types aG.out aA.out (by decide)) (fun _ hk => hk.2) (.int .i64 ji64)) (fun _ hk => ⟨hk.1.1, ⟨hk.1.2.1, hk.1.2.2⟩⟩))⟩, ⟨by (with_reducible repeat (first | refine blk_drewN ?_ _ | refine blk_drew ?_ | refine blk_alloc ?_ _)); refine blk_far ?_ bY.out _; exact qB aC.out⟩, ⟨by (with_reducible repeat (first | refine blk_drewN ?_ _ | refine blk_drew ?_ | refine blk_alloc ?_ _)); refine blk_far ?_ cB.out _; exact qB aD.out⟩, ⟨by (with_reducible repeat (first | refine blk_drewN ?_ _ | refine blk_drew ?_ | refine blk_alloc ?_ _)); refine blk_put (cs := #[aW, aX, aY, bB, .int .i64 bC]) ?_ 4 _ rfl; exact qB aA.out⟩, ⟨by repeat (first | (with_reducible first | exact HB.out | apply below_alloc | apply pw_below_drewN | apply below_drew1 | refine below_set ?_ cO.out | refine below_set ?_ cP.out | refine below_set ?_ dE.out) | exact HB.out)⟩⟩
        ·rw [if_neg c63] at H
         have iD : (aT == 0) = false := beq_eq_false_iff_ne.mpr c63
         have iE : (aT != 0) = true := bne_iff_ne.mpr c63
         obtain ⟨ji68, fT⟩ : ∃ j_ : Int, (wrap64 (aT - 1)) = j_ := ⟨_, rfl⟩
         replace H : (if 0 ≤ (ji68) then (if (ji68) < (bT.length : Int) then (if (wrap64 ((wrap64 (t187 + aK)) + aM)) > (rd bT (ji68)) then (standbyref56_Plan.l0 dV (wrap64 (Int.tdiv (wrap64 ((wrap64 ((aP.length : Int) + aE)) - 1)) aE)) t187 (wrap64 ((wrap64 (aT + 1)) * aE)) (wrap64 (aT + 1)) aP aZ aE aK aM bZ cA cX bT (mx bC (wrap64 ((wrap64 ((wrap64 ((wrap64 (t187 + aK)) + aM)) - 1)) - bM)))) else (standbyref56_Plan.l0 dV (wrap64 (Int.tdiv (wrap64 ((wrap64 ((aP.length : Int) + aE)) - 1)) aE)) t187 (wrap64 ((wrap64 (aT + 1)) * aE)) (wrap64 (aT + 1)) aP aZ aE aK aM bZ cA cX bT bC)) else (none)) else (none)) = some (r1, r2, r3, r4, r5, r6) := by first | (rw [fT] at H; exact H) | (simp only [fT] at H ⊢; exact H)
         have oK : (IntKind.i64.wrap (aT - 1)) = ji68 := (i64_w _).trans fT
         by_cases c69 : 0 ≤ (ji68)
         case neg =>
          rw [if_neg c69] at H
          exact absurd H (by simp)
         rw [if_pos c69] at H
         have oL : decide (0 ≤ (ji68)) = true := decide_eq_true c69
         clear c69
         by_cases c70 : (ji68) < (bT.length : Int)
         case neg =>
          rw [if_neg c70] at H
          exact absurd H (by simp)
         rw [if_pos c70] at H
         have oM : decide ((ji68) < (bT.length : Int)) = true := decide_eq_true c70
         clear c70
         by_cases c71 : (wrap64 ((wrap64 (t187 + aK)) + aM)) > (rd bT (ji68))
         case neg =>
          rw [if_neg c71] at H
          have iF : decide ((rd bT (ji68)) < (wrap64 ((wrap64 (t187 + aK)) + aM))) = false := decide_eq_false c71
          clear c71
          have H' := Aside0.mk H
          clear H
          have oN := cK.out
          have oO := bY.out
          have oP := cT.out
          have oQ := cB.out
          have oR : wc.cell? ⟨aN, 0, none⟩ = some (aW) := (blk_cell aA.out 0).trans rfl
          have oS : wc.cell? ⟨aN, 1, none⟩ = some (aX) := (blk_cell aA.out 1).trans rfl
          have oT : wc.cell? ⟨aN, 2, none⟩ = some (aY) := (blk_cell aA.out 2).trans rfl
          have oU : wc.cell? ⟨aN, 3, none⟩ = some (bB) := (blk_cell aA.out 3).trans rfl
          have oV : wc.cell? ⟨aN, 4, none⟩ = some (.int .i64 bC) := (blk_cell aA.out 4).trans rfl
          have oW := blk_frozen aA.out 0
          have oX := blk_frozen aA.out 1
          have oY := blk_frozen aA.out 2
          have oZ := blk_frozen aA.out 3
          have pA := blk_frozen aA.out 4
          obtain ⟨pB, iG, iH⟩ := Kd.R_slice aG.out
          subst iH
          have p213 : 0 ≤ ((ji68) : Int) := of_decide_eq_true (by first | (with_reducible assumption) | assumption)
          have q213 : (ji68) < (bT.length : Int) := of_decide_eq_true (by first | (with_reducible assumption) | assumption)
          obtain ⟨ad213, e213, iI⟩ := Kd.at_int (Kd.R_reads' aG.out).2.2 (ji68) p213 q213
          cases e213
          replace p213 := eq_true p213
          replace q213 := eq_true q213
          go_wp2
          go_roundg dV
          case measure => have := HK1.out; have := dU.out; have := eL.out; omega
          case rel => exact ⟨(t187), ((wrap64 ((wrap64 (aT + 1)) * aE))), (wrap64 (aT + 1)), (bL), (bZ), (cA), (cX), (bT), (bC), (aW), (aX), (aY), (.slice (some ad213) bT.length iG), (by first | rfl | (simp; done) | (simp [*]; done)), (by first | rfl | (simp; done) | (simp [*]; done)), (by first | rfl | (simp; done) | (simp [*]; done)), H', ⟨by have := HK1.out; have := dU.out; have := eL.out; omega⟩, ⟨by exact qR aI.out⟩, ⟨by exact qR aH.out⟩, ⟨by exact qR aJ.out⟩, ⟨by exact qR aG.out⟩, ⟨by exact qB aC.out⟩, ⟨by exact qB aD.out⟩, ⟨by exact qB aA.out⟩, ⟨by repeat (first | (with_reducible first | exact HB.out | apply below_alloc | apply pw_below_drewN | apply below_drew1 | refine below_set ?_ cO.out | refine below_set ?_ cP.out | refine below_set ?_ dE.out) | exact HB.out)⟩⟩
         rw [if_pos c71] at H
         have iF : decide ((rd bT (ji68)) < (wrap64 ((wrap64 (t187 + aK)) + aM))) = true := decide_eq_true c71
         clear c71
         obtain ⟨ji72, fU⟩ : ∃ j_ : Int, (mx bC (wrap64 ((wrap64 ((wrap64 ((wrap64 (t187 + aK)) + aM)) - 1)) - bM))) = j_ := ⟨_, rfl⟩
         replace H : (standbyref56_Plan.l0 dV (wrap64 (Int.tdiv (wrap64 ((wrap64 ((aP.length : Int) + aE)) - 1)) aE)) t187 (wrap64 ((wrap64 (aT + 1)) * aE)) (wrap64 (aT + 1)) aP aZ aE aK aM bZ cA cX bT ji72) = some (r1, r2, r3, r4, r5, r6) := by first | (rw [fU] at H; exact H) | (simp only [fU] at H ⊢; exact H)
         have pC : (if bC < (wrap64 ((wrap64 ((wrap64 ((wrap64 (t187 + aK)) + aM)) - 1)) - bM)) then (wrap64 ((wrap64 ((wrap64 ((wrap64 (t187 + aK)) + aM)) - 1)) - bM)) else bC) = ji72 := fU
         have H' := Aside0.mk H
         clear H
         have pD := cK.out
         have pE := bY.out
         have pF := cT.out
         have pG := cB.out
         have pH : wc.cell? ⟨aN, 0, none⟩ = some (aW) := (blk_cell aA.out 0).trans rfl
         have pI : wc.cell? ⟨aN, 1, none⟩ = some (aX) := (blk_cell aA.out 1).trans rfl
         have pJ : wc.cell? ⟨aN, 2, none⟩ = some (aY) := (blk_cell aA.out 2).trans rfl
         have pK : wc.cell? ⟨aN, 3, none⟩ = some (bB) := (blk_cell aA.out 3).trans rfl
         have pL : wc.cell? ⟨aN, 4, none⟩ = some (.int .i64 bC) := (blk_cell aA.out 4).trans rfl
         have pM := blk_frozen aA.out 0
         have pN := blk_frozen aA.out 1
         have pO := blk_frozen aA.out 2
         have pP := blk_frozen aA.out 3
         have pQ := blk_frozen aA.out 4
         obtain ⟨pR, gL, iJ⟩ := Kd.R_slice aG.out
         subst iJ
         have p213 : 0 ≤ ((ji68) : Int) := of_decide_eq_true (by first | (with_reducible assumption) | assumption)
         have q213 : (ji68) < (bT.length : Int) := of_decide_eq_true (by first | (with_reducible assumption) | assumption)
         obtain ⟨ad213, e213, iI⟩ := Kd.at_int (Kd.R_reads' aG.out).2.2 (ji68) p213 q213
         cases e213
         replace p213 := eq_true p213
         replace q213 := eq_true q213
         go_wp2
         go_roundg dV
         case measure => have := HK1.out; have := dU.out; have := eL.out; omega
         case rel => exact ⟨(t187), ((wrap64 ((wrap64 (aT + 1)) * aE))), (wrap64 (aT + 1)), (bL), (bZ), (cA), (cX), (bT), (ji72), (aW), (aX), (aY), (.slice (some ad213) bT.length gL), (by first | rfl | (simp; done) | (simp [*]; done)), (by first | rfl | (simp; done) | (simp [*]; done)), (by first | rfl | (simp; done) | (simp [*]; done)), H', ⟨by have := HK1.out; have := dU.out; have := eL.out; omega⟩, ⟨by exact qR (Kd.R_mono (Kd.R_far (p := ⟨aN, 4, none⟩) (Kd.R_types aI.out aA.out (by decide)) (fun _ hk => hk.2) (.int .i64 ji72)) (fun _ hk => ⟨hk.1.1, ⟨hk.1.2.1, hk.1.2.2⟩⟩))⟩, ⟨by exact qR (Kd.R_mono (Kd.R_far (p := ⟨aN, 4, none⟩) (Kd.R_types aH.out aA.out (by decide)) (fun _ hk => hk.2) (.int .i64 ji72)) (fun _ hk => ⟨hk.1.1, ⟨hk.1.2.1, hk.1.2.2⟩⟩))⟩, ⟨by exact qR (Kd.R_mono (Kd.R_far (p := ⟨aN, 4, none⟩) (Kd.R_types aJ.out aA.out (by decide)) (fun _ hk => hk.2) (.int .i64 ji72)) (fun _ hk => ⟨hk.1.1, ⟨hk.1.2.1, hk.1.2.2⟩⟩))⟩, ⟨by exact qR (Kd.R_mono (Kd.R_far (p := ⟨aN, 4, none⟩) (Kd.R_types aG.out aA.out (by decide)) (fun _ hk => hk.2) (.int .i64 ji72)) (fun _ hk => ⟨hk.1.1, ⟨hk.1.2.1, hk.1.2.2⟩⟩))⟩, ⟨by (with_reducible repeat (first | refine blk_drewN ?_ _ | refine blk_drew ?_ | refine blk_alloc ?_ _)); refine blk_far ?_ bY.out _; exact qB aC.out⟩, ⟨by (with_reducible repeat (first | refine blk_drewN ?_ _ | refine blk_drew ?_ | refine blk_alloc ?_ _)); refine blk_far ?_ cB.out _; exact qB aD.out⟩, ⟨by (with_reducible repeat (first | refine blk_drewN ?_ _ | refine blk_drew ?_ | refine blk_alloc ?_ _)); refine blk_put (cs := #[aW, aX, aY, .slice (some ad213) bT.length gL, .int .i64 bC]) ?_ 4 _ rfl; exact qB aA.out⟩, ⟨by repeat (first | (with_reducible first | exact HB.out | apply below_alloc | apply pw_below_drewN | apply below_drew1 | refine below_set ?_ cO.out | refine below_set ?_ cP.out | refine below_set ?_ dE.out) | exact HB.out)⟩⟩
end Go.Proofs.Ytcflacjidabppaa.Pr

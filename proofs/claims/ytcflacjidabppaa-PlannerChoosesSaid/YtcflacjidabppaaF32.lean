-- Written by pp.py, a program of this session, over the translation of the given program; a machine's text: Lean checks it.
import Derived.Test.YtcflacjidabppaaGShort
import Derived.Test.YtcflacjidabppaaF14
import Derived.Test.YtcflacjidabppaaF16
namespace Go.Proofs.Ytcflacjidabppaa.Pr
open Go.RowKit Go.Proofs.YtcflacjidabppaaW.PrintWords Go.Proofs.YtcflacjidabppaaW.PrintLast Go.Proofs.YtcflacjidabppaaW.PrintMore
attribute [local go_sem] max2_int min2_int max_two min_two max_three min_three max_four min_four   -- for this text's walks alone
set_option linter.unusedVariables false
set_option linter.unusedSimpArgs false

/-! ### standbyref56_Best: function 32 -/
mutual
def standbyref56_Best.j0 : Nat → Int → Bool → List Int → List Int → Int → Int → Int → Option (Int × List Int × List Int × List Int × List Int × Int × Int)
 | 0, _, _, _, _, _, _, _ => none
 | k + 1, x1, x18, bZ, cA, dI, cB, cC => if x18 = true then (some (0, ([] : List Int), ([] : List Int), ([] : List Int), ([] : List Int), 0, 2)) else ((standbyref56_Check.f k bZ cA 1 cB cC).bind fun t497 => (if t497 = 0 then (standbyref56_Best.l0 k x1 0 1 bZ cA 1 cB cC ([] : List Int) ([] : List Int) ([] : List Int) ([] : List Int) 0) else (some (0, ([] : List Int), ([] : List Int), ([] : List Int), ([] : List Int), 0, t497))))
def standbyref56_Best.l0 : Nat → Int → Int → Int → List Int → List Int → Int → Int → Int → List Int → List Int → List Int → List Int → Int → Option (Int × List Int × List Int × List Int × List Int × Int × Int)
 | 0, _, _, _, _, _, _, _, _, _, _, _, _, _ => none
 | k + 1, x1, x8, x10, bZ, cA, dI, cB, cC, cW, cX, cY, cZ, cP => if x10 ≤ x1 then ((standbyref56_Plan.f k bZ cA x10 cB cC).bind fun bP => (if bP.2.2.2.2.2 = 0 then (if x8 = 0 then (standbyref56_Best.j2 k x1 x8 x10 true bZ cA x10 cB cC cW cX cY cZ cP bP.1 bP.2.1 bP.2.2.1 bP.2.2.2.1 bP.2.2.2.2.1) else (standbyref56_Best.j2 k x1 x8 x10 (decide (bP.2.2.2.2.1 < cP)) bZ cA x10 cB cC cW cX cY cZ cP bP.1 bP.2.1 bP.2.2.1 bP.2.2.2.1 bP.2.2.2.2.1)) else (standbyref56_Best.j2 k x1 x8 x10 false bZ cA x10 cB cC cW cX cY cZ cP bP.1 bP.2.1 bP.2.2.1 bP.2.2.2.1 bP.2.2.2.2.1))) else (if x8 = 0 then (some (0, ([] : List Int), ([] : List Int), ([] : List Int), ([] : List Int), 0, 21)) else (some (x8, cW, cX, cY, cZ, cP, 0)))
def standbyref56_Best.j2 : Nat → Int → Int → Int → Bool → List Int → List Int → Int → Int → Int → List Int → List Int → List Int → List Int → Int → List Int → List Int → List Int → List Int → Int → Option (Int × List Int × List Int × List Int × List Int × Int × Int)
 | 0, _, _, _, _, _, _, _, _, _, _, _, _, _, _, _, _, _, _, _ => none
 | k + 1, x1, x8, x10, x51, bZ, cA, dI, cB, cC, cW, cX, cY, cZ, cP, fK, fL, fM, fN, fO => if x51 = true then (standbyref56_Best.l0 k x1 x10 (wrap64 (x10 + 1)) bZ cA dI cB cC fK fL fM fN fO) else (standbyref56_Best.l0 k x1 x8 (wrap64 (x10 + 1)) bZ cA dI cB cC cW cX cY cZ cP)
end
def standbyref56_Best.f (k : Nat) (aR : List Int) (aS : List Int) (bU : Int) (aT : Int) (aU : Int) (a1 : Int) : Option (Int × List Int × List Int × List Int × List Int × Int × Int) := if a1 < 1 then (standbyref56_Best.j0 k a1 true aR aS bU aT aU) else (standbyref56_Best.j0 k a1 (decide (a1 > 4096)) aR aS bU aT aU)
theorem standbyref56_Best.mono_l : ∀ k, (∀ y0 y1 y2 y3 y4 y5 y6, LeO (standbyref56_Best.j0 k y0 y1 y2 y3 y4 y5 y6) (standbyref56_Best.j0 (k + 1) y0 y1 y2 y3 y4 y5 y6)) ∧ (∀ y0 y1 y2 y3 y4 y5 y6 y7 y8 y9 y10 y11 y12, LeO (standbyref56_Best.l0 k y0 y1 y2 y3 y4 y5 y6 y7 y8 y9 y10 y11 y12) (standbyref56_Best.l0 (k + 1) y0 y1 y2 y3 y4 y5 y6 y7 y8 y9 y10 y11 y12)) ∧ (∀ y0 y1 y2 y3 y4 y5 y6 y7 y8 y9 y10 y11 y12 y13 y14 y15 y16 y17 y18, LeO (standbyref56_Best.j2 k y0 y1 y2 y3 y4 y5 y6 y7 y8 y9 y10 y11 y12 y13 y14 y15 y16 y17 y18) (standbyref56_Best.j2 (k + 1) y0 y1 y2 y3 y4 y5 y6 y7 y8 y9 y10 y11 y12 y13 y14 y15 y16 y17 y18))
 | 0 => ⟨fun _ _ _ _ _ _ _ r h => by simp [standbyref56_Best.j0] at h, fun _ _ _ _ _ _ _ _ _ _ _ _ _ r h => by simp [standbyref56_Best.l0] at h, fun _ _ _ _ _ _ _ _ _ _ _ _ _ _ _ _ _ _ _ r h => by simp [standbyref56_Best.j2] at h⟩
 | k + 1 => by
  obtain ⟨ih0, ih1, ih2⟩ := standbyref56_Best.mono_l k
  refine ⟨?_, ?_, ?_⟩
  ·intro y0 y1 y2 y3 y4 y5 y6
   unfold standbyref56_Best.j0
   repeat' first
   | (with_reducible exact ih0 _ _ _ _ _ _ _)
   | (with_reducible exact ih1 _ _ _ _ _ _ _ _ _ _ _ _ _)
   | (with_reducible exact ih2 _ _ _ _ _ _ _ _ _ _ _ _ _ _ _ _ _ _ _)
   | (with_reducible exact standbyref56_Check.mono _ _ _ _ _ _)
   | (with_reducible exact standbyref56_Plan.mono _ _ _ _ _ _)
   | (with_reducible exact LeO.refl _)
   | (with_reducible exact LeO.none _)
   | (with_reducible refine LeO.ite ?_ ?_)
   | (with_reducible refine LeO.bind ?_ (fun _ => ?_))
   | exact ih0 _ _ _ _ _ _ _
   | exact ih1 _ _ _ _ _ _ _ _ _ _ _ _ _
   | exact ih2 _ _ _ _ _ _ _ _ _ _ _ _ _ _ _ _ _ _ _
   | exact standbyref56_Check.mono _ _ _ _ _ _
   | exact standbyref56_Plan.mono _ _ _ _ _ _
   | exact LeO.none _
   | refine LeO.ite ?_ ?_
   | refine LeO.bind ?_ (fun _ => ?_)
  ·intro y0 y1 y2 y3 y4 y5 y6 y7 y8 y9 y10 y11 y12
   unfold standbyref56_Best.l0
   repeat' first
   | (with_reducible exact ih0 _ _ _ _ _ _ _)
   | (with_reducible exact ih1 _ _ _ _ _ _ _ _ _ _ _ _ _)
   | (with_reducible exact ih2 _ _ _ _ _ _ _ _ _ _ _ _ _ _ _ _ _ _ _)
   | (with_reducible exact standbyref56_Check.mono _ _ _ _ _ _)
   | (with_reducible exact standbyref56_Plan.mono _ _ _ _ _ _)
   | (with_reducible exact LeO.refl _)
   | (with_reducible exact LeO.none _)
   | (with_reducible refine LeO.ite ?_ ?_)
   | (with_reducible refine LeO.bind ?_ (fun _ => ?_))
   | exact ih0 _ _ _ _ _ _ _
   | exact ih1 _ _ _ _ _ _ _ _ _ _ _ _ _
   | exact ih2 _ _ _ _ _ _ _ _ _ _ _ _ _ _ _ _ _ _ _
   | exact standbyref56_Check.mono _ _ _ _ _ _
   | exact standbyref56_Plan.mono _ _ _ _ _ _
   | exact LeO.none _
   | refine LeO.ite ?_ ?_
   | refine LeO.bind ?_ (fun _ => ?_)
  ·intro y0 y1 y2 y3 y4 y5 y6 y7 y8 y9 y10 y11 y12 y13 y14 y15 y16 y17 y18
   unfold standbyref56_Best.j2
   repeat' first
   | (with_reducible exact ih0 _ _ _ _ _ _ _)
   | (with_reducible exact ih1 _ _ _ _ _ _ _ _ _ _ _ _ _)
   | (with_reducible exact ih2 _ _ _ _ _ _ _ _ _ _ _ _ _ _ _ _ _ _ _)
   | (with_reducible exact standbyref56_Check.mono _ _ _ _ _ _)
   | (with_reducible exact standbyref56_Plan.mono _ _ _ _ _ _)
   | (with_reducible exact LeO.refl _)
   | (with_reducible exact LeO.none _)
   | (with_reducible refine LeO.ite ?_ ?_)
   | (with_reducible refine LeO.bind ?_ (fun _ => ?_))
   | exact ih0 _ _ _ _ _ _ _
   | exact ih1 _ _ _ _ _ _ _ _ _ _ _ _ _
   | exact ih2 _ _ _ _ _ _ _ _ _ _ _ _ _ _ _ _ _ _ _
   | exact standbyref56_Check.mono _ _ _ _ _ _
   | exact standbyref56_Plan.mono _ _ _ _ _ _
   | exact LeO.none _
   | refine LeO.ite ?_ ?_
   | refine LeO.bind ?_ (fun _ => ?_)
theorem standbyref56_Best.mono : ∀ a0 a1 a2 a3 a4 a5 k, LeO (standbyref56_Best.f k a0 a1 a2 a3 a4 a5) (standbyref56_Best.f (k + 1) a0 a1 a2 a3 a4 a5) := by
 intro a0 a1 a2 a3 a4 a5 k
 obtain ⟨ih0, ih1, ih2⟩ := standbyref56_Best.mono_l k
 unfold standbyref56_Best.f
 repeat' first
   | (with_reducible exact ih0 _ _ _ _ _ _ _)
   | (with_reducible exact ih1 _ _ _ _ _ _ _ _ _ _ _ _ _)
   | (with_reducible exact ih2 _ _ _ _ _ _ _ _ _ _ _ _ _ _ _ _ _ _ _)
   | (with_reducible exact standbyref56_Check.mono _ _ _ _ _ _)
   | (with_reducible exact standbyref56_Plan.mono _ _ _ _ _ _)
   | (with_reducible exact LeO.refl _)
   | (with_reducible exact LeO.none _)
   | (with_reducible refine LeO.ite ?_ ?_)
   | (with_reducible refine LeO.bind ?_ (fun _ => ?_))
   | exact ih0 _ _ _ _ _ _ _
   | exact ih1 _ _ _ _ _ _ _ _ _ _ _ _ _
   | exact ih2 _ _ _ _ _ _ _ _ _ _ _ _ _ _ _ _ _ _ _
   | exact standbyref56_Check.mono _ _ _ _ _ _
   | exact standbyref56_Plan.mono _ _ _ _ _ _
   | exact LeO.none _
   | refine LeO.ite ?_ ?_
   | refine LeO.bind ?_ (fun _ => ?_)
set_option maxHeartbeats 8000000 in
set_option maxRecDepth 100000 in
theorem standbyref56_Best.calls (k : Nat) (bK : Option Addr) (bL : Nat) (aR : List Int) (bM : Option Addr) (bN : Nat) (aS : List Int) (bU : Int) (aT : Int) (aU : Int) (a1 : Int) (r1 : Int) (r2 : List Int) (r3 : List Int) (r4 : List Int) (r5 : List Int) (r6 : Int) (r7 : Int) (w : World) (dU : Kd.C (Kd.int .i64) w bK aR.length aR) (dV : aR.length ≤ bL) (dW : Kd.C (Kd.int .i64) w bM aS.length aS) (dX : aS.length ≤ bN) (h : standbyref56_Best.f k aR aS bU aT aU a1 = some (r1, r2, r3, r4, r5, r6, r7)) :
  Calls Try.prog 32 #[.agg #[.slice bK aR.length bL, .slice bM aS.length bN, .int .i64 bU, .int .i64 aT, .int .i64 aU], .int .i64 a1] w fun e w' => ∃ v1_ v2_ v3_ v4_ : Value, e = .returned (.tuple #[.int .i64 r1, .agg #[v1_, v2_, v3_, v4_, .int .i64 r6], .int .i64 r7]) ∧ Kd.R (Kd.int .i64) 3 w' w.heap.size (fun k_ => some k_ ≠ (v2_ : Value).ownBlock ∧ some k_ ≠ (v3_ : Value).ownBlock ∧ some k_ ≠ (v4_ : Value).ownBlock) v1_ r2 ∧ Kd.R (Kd.int .i64) 3 w' w.heap.size (fun k_ => some k_ ≠ (v1_ : Value).ownBlock ∧ some k_ ≠ (v3_ : Value).ownBlock ∧ some k_ ≠ (v4_ : Value).ownBlock) v2_ r3 ∧ Kd.R (Kd.int .i64) 3 w' w.heap.size (fun k_ => some k_ ≠ (v1_ : Value).ownBlock ∧ some k_ ≠ (v2_ : Value).ownBlock ∧ some k_ ≠ (v4_ : Value).ownBlock) v3_ r4 ∧ Kd.R (Kd.int .i64) 3 w' w.heap.size (fun k_ => some k_ ≠ (v1_ : Value).ownBlock ∧ some k_ ≠ (v2_ : Value).ownBlock ∧ some k_ ≠ (v3_ : Value).ownBlock) v4_ r5 ∧ Below w.heap.size w w' := by
 have hu24 := Try.underlying24
 have hu28 := Try.underlying28
 have dN := Aside0.mk dU
 have dO := Aside0.mk dV
 clear dU dV
 have dP := Aside0.mk dW
 have dQ := Aside0.mk dX
 clear dW dX
 have HB := Aside0.mk (Below.refl w.heap.size w)
 have H : (if a1 < 1 then (standbyref56_Best.j0 k a1 true aR aS bU aT aU) else (standbyref56_Best.j0 k a1 (decide (a1 > 4096)) aR aS bU aT aU)) = some (r1, r2, r3, r4, r5, r6, r7) := h
 clear h
 have HC3 := Aside0.mk H
 clear H
 go_enter Try.func32, Try.ntmps32
 go_upto_region 1 with (first | ((with_reducible refine gate_dst (N := 2) rfl ?_); refine box_event ?hg (N := 2) ?hd (cs := #[.slice bK aR.length bL, .slice bM aS.length bN, .int .i64 bU, .int .i64 aT, .int .i64 aU]) (t := 24) ?hr ?_; (case hd => rfl); (case hg => rfl); (case hr => first | (go_simp; done) | (go_simp; rfl)); intro aL hg w4 hbox hb; have n0_ := Aside0.mk (below_step (qW HB.out) hb); have n1_ := Aside0.mk (hbox); have n2_ := Aside0.mk ((by rw [hg]; exact (below_size (qW HB.out)) : w.heap.size ≤ aL)); have n3_ := Aside0.mk ((by rw [hg]; exact (below_size (qW HB.out)) : w.heap.size ≤ aL)); clear HB; have HB := n0_; have aB := n1_; have hJ := n2_; have bW := n3_; clear n0_ n1_ n2_ n3_ hb hbox hg) | ((with_reducible refine gate_dst (N := 5) rfl ?_); refine box_event ?hg (N := 5) ?hd (cs := #[.slice none 0 0, .slice none 0 0, .slice none 0 0, .slice none 0 0, .int .i64 0]) (t := 28) ?hr ?_; (case hd => rfl); (case hg => rfl); (case hr => first | (go_simp; done) | (go_simp; rfl)); intro aD hg w5 hbox hb; have n0_ := Aside0.mk (blk_below (qB aB.out) hb); have n1_ := Aside0.mk (below_step (qW HB.out) hb); have n2_ := Aside0.mk (hbox); have n3_ := Aside0.mk ((by rw [hg]; exact (below_size (qW HB.out)) : w.heap.size ≤ aD)); have n4_ := Aside0.mk ((by rw [hg]; exact (below_size (qW HB.out)) : w.heap.size ≤ aD)); have n5_ := Aside0.mk ((by rw [hg]; exact Nat.ne_of_lt (blk_lt (qB aB.out)) : aL ≠ aD)); have n6_ := Aside0.mk ((by rw [hg]; exact Nat.ne_of_gt (blk_lt (qB aB.out)) : aD ≠ aL)); clear aB HB; have aB := n0_; have HB := n1_; have aC := n2_; have hL := n3_; have bX := n4_; have cD := n5_; have bV := n6_; clear n0_ n1_ n2_ n3_ n4_ n5_ n6_ hb hbox hg))
 (try simp only [Act.put, List.setIfInBounds_toArray, List.set_cons_zero, List.set_cons_succ])
 go_cut [18] (fun v18 wc => ∃ (kq : Nat) (dJ : Bool), v18 = .bool dJ ∧ Aside0 (standbyref56_Best.j0 kq a1 dJ aR aS bU aT aU = some (r1, r2, r3, r4, r5, r6, r7)) ∧ Aside0 (kq ≤ k) ∧ Aside0 (wc.heap[aL]? = some (.cells #[(.slice bK aR.length bL), (.slice bM aS.length bN), .int .i64 bU, .int .i64 aT, .int .i64 aU] 24 (0, 0))) ∧ Aside0 (wc.heap[aD]? = some (.cells #[(.slice none 0 0), (.slice none 0 0), (.slice none 0 0), (.slice none 0 0), .int .i64 0] 28 (0, 0))) ∧ Aside0 (Below w.heap.size w wc))
 case first =>
  have H := HC3.out
  clear HC3
  by_cases c6 : a1 < 1
  ·rw [if_pos c6] at H
   have cI : decide (a1 < 1) = true := decide_eq_true c6
   clear c6
   (first | rw [cI] | (simp only [i64_w, i32_w]; rw [cI]) | skip)
   have H' := Aside0.mk H
   clear H
   go_wp2
   go_meet
   case rel => exact ⟨_, (true), (by first | rfl | (simp; done) | (simp [*]; done)), H', ⟨by first | omega | exact Nat.le_refl _⟩, ⟨by exact qB aB.out⟩, ⟨by exact qB aC.out⟩, ⟨by repeat (first | (with_reducible first | exact HB.out | apply below_alloc | apply pw_below_drewN | apply below_drew1 | refine below_set ?_ bW.out | refine below_set ?_ bX.out) | exact HB.out)⟩⟩
  ·rw [if_neg c6] at H
   have cI : decide (a1 < 1) = false := decide_eq_false c6
   clear c6
   (first | rw [cI] | (simp only [i64_w, i32_w]; rw [cI]) | skip)
   have H' := Aside0.mk H
   clear H
   go_wp2
   go_meet
   case rel => exact ⟨_, (decide (a1 > 4096)), (by first | rfl | (simp; done) | (simp [*]; done)), H', ⟨by first | omega | exact Nat.le_refl _⟩, ⟨by exact qB aB.out⟩, ⟨by exact qB aC.out⟩, ⟨by repeat (first | (with_reducible first | exact HB.out | apply below_alloc | apply pw_below_drewN | apply below_drew1 | refine below_set ?_ bW.out | refine below_set ?_ bX.out) | exact HB.out)⟩⟩
 case rest =>
  clear HC3
  try clear p2
  try clear c3
  try clear c6
  try clear cI
  obtain ⟨kq, dJ, rfl, HA, HJ2, aB, aC, HB⟩ := hcut
  cases kq with
  | zero => exact absurd HA.out (by simp [standbyref56_Best.j0])
  | succ kj2 =>
   have H := HA.out
   clear HA
   simp only [standbyref56_Best.j0] at H
   by_cases c7 : dJ = true
   ·subst c7
    have H1 : (some (0, ([] : List Int), ([] : List Int), ([] : List Int), ([] : List Int), 0, 2)) = some (r1, r2, r3, r4, r5, r6, r7) := by rw [if_pos rfl] at H; exact H
    clear H
    have H := H1
    clear H1
    simp only [Option.some.injEq, Prod.mk.injEq] at H
    obtain ⟨rfl, rfl, rfl, rfl, rfl, rfl, rfl⟩ := H
    have hM := bV.out
    have hN := cD.out
    have dY : wc.cell? ⟨aD, 0, none⟩ = some (.slice none 0 0) := (blk_cell aC.out 0).trans rfl
    have dZ : wc.cell? ⟨aD, 1, none⟩ = some (.slice none 0 0) := (blk_cell aC.out 1).trans rfl
    have eA : wc.cell? ⟨aD, 2, none⟩ = some (.slice none 0 0) := (blk_cell aC.out 2).trans rfl
    have eB : wc.cell? ⟨aD, 3, none⟩ = some (.slice none 0 0) := (blk_cell aC.out 3).trans rfl
    have eC : wc.cell? ⟨aD, 4, none⟩ = some (.int .i64 0) := (blk_cell aC.out 4).trans rfl
    have eD := blk_frozen aC.out 0
    have eE := blk_frozen aC.out 1
    have eF := blk_frozen aC.out 2
    have eG := blk_frozen aC.out 3
    have eH := blk_frozen aC.out 4
    go_wp2
    refine bodyPost_ret (results_list (rs := [.tmp 4, .cell 5 28, .tmp 6]) rfl (by simp) (.tmp (.cell aD 28 #[.slice none 0 0, .slice none 0 0, .slice none 0 0, .slice none 0 0, .int .i64 0] (0, 0) _ rfl (by (with_reducible repeat (first | refine blk_drewN ?_ _ | refine blk_drew ?_ | refine blk_alloc ?_ _)); refine blk_put (cs := #[.slice none 0 0, .slice none 0 0, .slice none 0 0, .slice none 0 0, .int .i64 0]) ?_ 4 _ rfl; (with_reducible repeat (first | refine blk_drewN ?_ _ | refine blk_drew ?_ | refine blk_alloc ?_ _)); refine blk_put (cs := #[.slice none 0 0, .slice none 0 0, .slice none 0 0, .slice none 0 0, .int .i64 0]) ?_ 3 _ rfl; (with_reducible repeat (first | refine blk_drewN ?_ _ | refine blk_drew ?_ | refine blk_alloc ?_ _)); refine blk_put (cs := #[.slice none 0 0, .slice none 0 0, .slice none 0 0, .slice none 0 0, .int .i64 0]) ?_ 2 _ rfl; (with_reducible repeat (first | refine blk_drewN ?_ _ | refine blk_drew ?_ | refine blk_alloc ?_ _)); refine blk_put (cs := #[.slice none 0 0, .slice none 0 0, .slice none 0 0, .slice none 0 0, .int .i64 0]) ?_ 1 _ rfl; (with_reducible repeat (first | refine blk_drewN ?_ _ | refine blk_drew ?_ | refine blk_alloc ?_ _)); refine blk_put (cs := #[.slice none 0 0, .slice none 0 0, .slice none 0 0, .slice none 0 0, .int .i64 0]) ?_ 0 _ rfl; exact qB aC.out) Try.underlying28 rfl (by kernel_rfl) (.tmp .nil)))) rfl ?_
    exact ⟨_, _, _, _, by first | rfl | (simp [errW_none, errW_some] <;> rfl) | (simp [*, errW_none, errW_some] <;> rfl), by first | exact Kd.R_nil _ _ _ _ _ | exact Kd.N_nil _ _ _ _ _ | exact Kd.V_nil _ _ _ _ _ | exact Kd.Q_nil _ _ _ _ _ | exact Kd.S_nil _ _ _ _ _, by first | exact Kd.R_nil _ _ _ _ _ | exact Kd.N_nil _ _ _ _ _ | exact Kd.V_nil _ _ _ _ _ | exact Kd.Q_nil _ _ _ _ _ | exact Kd.S_nil _ _ _ _ _, by first | exact Kd.R_nil _ _ _ _ _ | exact Kd.N_nil _ _ _ _ _ | exact Kd.V_nil _ _ _ _ _ | exact Kd.Q_nil _ _ _ _ _ | exact Kd.S_nil _ _ _ _ _, by first | exact Kd.R_nil _ _ _ _ _ | exact Kd.N_nil _ _ _ _ _ | exact Kd.V_nil _ _ _ _ _ | exact Kd.Q_nil _ _ _ _ _ | exact Kd.S_nil _ _ _ _ _, by repeat (first | (with_reducible first | exact HB.out | apply below_alloc | apply pw_below_drewN | apply below_drew1 | refine below_set ?_ bW.out | refine below_set ?_ bX.out) | exact HB.out)⟩
   ·replace c7 := Bool.eq_false_iff.mpr c7
    subst c7
    have H1 : ((standbyref56_Check.f kj2 aR aS 1 aT aU).bind fun t497 => (if t497 = 0 then (standbyref56_Best.l0 kj2 a1 0 1 aR aS 1 aT aU ([] : List Int) ([] : List Int) ([] : List Int) ([] : List Int) 0) else (some (0, ([] : List Int), ([] : List Int), ([] : List Int), ([] : List Int), 0, t497)))) = some (r1, r2, r3, r4, r5, r6, r7) := by rw [if_neg (show ¬ (false = true) by decide)] at H; exact H
    clear H
    have H := H1
    clear H1
    replace H := Option.bind_eq_some_iff.mp H
    obtain ⟨t497, A100, H⟩ := H
    replace H : (if t497 = 0 then (standbyref56_Best.l0 kj2 a1 0 1 aR aS 1 aT aU ([] : List Int) ([] : List Int) ([] : List Int) ([] : List Int) 0) else (some (0, ([] : List Int), ([] : List Int), ([] : List Int), ([] : List Int), 0, t497))) = some (r1, r2, r3, r4, r5, r6, r7) := H
    have A10 := Aside0.mk A100
    clear A100
    by_cases c11 : t497 = 0
    case neg =>
     rw [if_neg c11] at H
     have dR : (t497 == 0) = false := beq_eq_false_iff_ne.mpr c11
     have dS : (t497 != 0) = true := bne_iff_ne.mpr c11
     simp only [Option.some.injEq, Prod.mk.injEq] at H
     obtain ⟨rfl, rfl, rfl, rfl, rfl, rfl, rfl⟩ := H
     have hO := cD.out
     have hP := bV.out
     have hQ : wc.cell? ⟨aL, 0, none⟩ = some (.slice bK aR.length bL) := (blk_cell aB.out 0).trans rfl
     have hR : wc.cell? ⟨aL, 1, none⟩ = some (.slice bM aS.length bN) := (blk_cell aB.out 1).trans rfl
     have hS : wc.cell? ⟨aL, 2, none⟩ = some (.int .i64 bU) := (blk_cell aB.out 2).trans rfl
     have hT : wc.cell? ⟨aL, 3, none⟩ = some (.int .i64 aT) := (blk_cell aB.out 3).trans rfl
     have hU : wc.cell? ⟨aL, 4, none⟩ = some (.int .i64 aU) := (blk_cell aB.out 4).trans rfl
     have hV := blk_frozen aB.out 0
     have hW := blk_frozen aB.out 1
     have hX := blk_frozen aB.out 2
     have hY := blk_frozen aB.out 3
     have hZ := blk_frozen aB.out 4
     go_wp2_with (first | ((with_reducible refine gate_callee (f := 16) rfl ?_); refine goesL_ (some 22) rfl rfl Try.func16 (by kernel_rfl) rfl #[.agg #[.slice bK aR.length bL, .slice bM aS.length bN, .int .i64 1, .int .i64 aT, .int .i64 aU]] rfl (by (try simp only [List.map_toArray, List.map_cons, List.map_nil]); first | done | rfl | (simp only [List.length_drop, List.length_take]; rfl)) ?_; (with_reducible refine (standbyref56_Check.calls kj2 _ _ aR _ _ aS 1 aT aU t497 _ ?side1 ?side2 ?side3 ?side4 A10.out).mono ?_); (case side1 => exact Kd.C_below dN.out (qW HB.out)); (case side2 => exact dO.out); (case side3 => exact Kd.C_below dP.out (qW HB.out)); (case side4 => exact dQ.out); rintro e w64 ⟨rfl, hb⟩; refine ⟨_, rfl, ?_⟩; have n0_ := Aside0.mk (blk_below (g := aL) (o := .cells #[.slice bK aR.length bL, .slice bM aS.length bN, .int .i64 1, .int .i64 aT, .int .i64 aU] 24 (0, 0)) (by (with_reducible repeat (first | refine blk_drewN ?_ _ | refine blk_drew ?_ | refine blk_alloc ?_ _)); refine blk_put (cs := #[.slice bK aR.length bL, .slice bM aS.length bN, .int .i64 bU, .int .i64 aT, .int .i64 aU]) ?_ 2 _ rfl; exact qB aB.out) hb); have n1_ := Aside0.mk (blk_below (g := aD) (o := .cells #[.slice none 0 0, .slice none 0 0, .slice none 0 0, .slice none 0 0, .int .i64 0] 28 (0, 0)) (by (with_reducible repeat (first | refine blk_drewN ?_ _ | refine blk_drew ?_ | refine blk_alloc ?_ _)); refine blk_far ?_ bV.out _; exact qB aC.out) hb); have n2_ := Aside0.mk (below_step (qW HB.out) hb); clear aB aC HB; have aB := n0_; have aC := n1_; have HB := n2_; clear n0_ n1_ n2_; (try clear hb); (try clear hb2); (try clear hk); (try clear hi); have iA : w64.cell? ⟨aD, 0, none⟩ = some (.slice none 0 0) := (blk_cell aC.out 0).trans rfl; have iB : w64.cell? ⟨aD, 1, none⟩ = some (.slice none 0 0) := (blk_cell aC.out 1).trans rfl; have iC : w64.cell? ⟨aD, 2, none⟩ = some (.slice none 0 0) := (blk_cell aC.out 2).trans rfl; have iD : w64.cell? ⟨aD, 3, none⟩ = some (.slice none 0 0) := (blk_cell aC.out 3).trans rfl; have iE : w64.cell? ⟨aD, 4, none⟩ = some (.int .i64 0) := (blk_cell aC.out 4).trans rfl; have iF := blk_frozen aC.out 0; have iG := blk_frozen aC.out 1; have iH := blk_frozen aC.out 2; have iI := blk_frozen aC.out 3; have iJ := blk_frozen aC.out 4))
     refine bodyPost_ret (results_list (rs := [.tmp 4, .cell 5 28, .tmp 6]) rfl (by simp) (.tmp (.cell aD 28 #[.slice none 0 0, .slice none 0 0, .slice none 0 0, .slice none 0 0, .int .i64 0] (0, 0) _ rfl (by (with_reducible repeat (first | refine blk_drewN ?_ _ | refine blk_drew ?_ | refine blk_alloc ?_ _)); refine blk_put (cs := #[.slice none 0 0, .slice none 0 0, .slice none 0 0, .slice none 0 0, .int .i64 0]) ?_ 4 _ rfl; (with_reducible repeat (first | refine blk_drewN ?_ _ | refine blk_drew ?_ | refine blk_alloc ?_ _)); refine blk_put (cs := #[.slice none 0 0, .slice none 0 0, .slice none 0 0, .slice none 0 0, .int .i64 0]) ?_ 3 _ rfl; (with_reducible repeat (first | refine blk_drewN ?_ _ | refine blk_drew ?_ | refine blk_alloc ?_ _)); refine blk_put (cs := #[.slice none 0 0, .slice none 0 0, .slice none 0 0, .slice none 0 0, .int .i64 0]) ?_ 2 _ rfl; (with_reducible repeat (first | refine blk_drewN ?_ _ | refine blk_drew ?_ | refine blk_alloc ?_ _)); refine blk_put (cs := #[.slice none 0 0, .slice none 0 0, .slice none 0 0, .slice none 0 0, .int .i64 0]) ?_ 1 _ rfl; (with_reducible repeat (first | refine blk_drewN ?_ _ | refine blk_drew ?_ | refine blk_alloc ?_ _)); refine blk_put (cs := #[.slice none 0 0, .slice none 0 0, .slice none 0 0, .slice none 0 0, .int .i64 0]) ?_ 0 _ rfl; exact qB aC.out) Try.underlying28 rfl (by kernel_rfl) (.tmp .nil)))) rfl ?_
     exact ⟨_, _, _, _, by first | rfl | (simp [errW_none, errW_some] <;> rfl) | (simp [*, errW_none, errW_some] <;> rfl), by first | exact Kd.R_nil _ _ _ _ _ | exact Kd.N_nil _ _ _ _ _ | exact Kd.V_nil _ _ _ _ _ | exact Kd.Q_nil _ _ _ _ _ | exact Kd.S_nil _ _ _ _ _, by first | exact Kd.R_nil _ _ _ _ _ | exact Kd.N_nil _ _ _ _ _ | exact Kd.V_nil _ _ _ _ _ | exact Kd.Q_nil _ _ _ _ _ | exact Kd.S_nil _ _ _ _ _, by first | exact Kd.R_nil _ _ _ _ _ | exact Kd.N_nil _ _ _ _ _ | exact Kd.V_nil _ _ _ _ _ | exact Kd.Q_nil _ _ _ _ _ | exact Kd.S_nil _ _ _ _ _, by first | exact Kd.R_nil _ _ _ _ _ | exact Kd.N_nil _ _ _ _ _ | exact Kd.V_nil _ _ _ _ _ | exact Kd.Q_nil _ _ _ _ _ | exact Kd.S_nil _ _ _ _ _, by repeat (first | (with_reducible first | exact HB.out | apply below_alloc | apply pw_below_drewN | apply below_drew1 | refine below_set ?_ bW.out | refine below_set ?_ bX.out) | exact HB.out)⟩

    rw [if_pos c11] at H
    have dR : (t497 == 0) = true := beq_iff_eq.mpr c11
    have dS : (t497 != 0) = false := bne_eq_false_iff_eq.mpr c11
    clear c11
    have H' := Aside0.mk H
    clear H
    have iK := cD.out
    have iL := bV.out
    have eI : wc.cell? ⟨aL, 0, none⟩ = some (.slice bK aR.length bL) := (blk_cell aB.out 0).trans rfl
    have eJ : wc.cell? ⟨aL, 1, none⟩ = some (.slice bM aS.length bN) := (blk_cell aB.out 1).trans rfl
    have eK : wc.cell? ⟨aL, 2, none⟩ = some (.int .i64 bU) := (blk_cell aB.out 2).trans rfl
    have eL : wc.cell? ⟨aL, 3, none⟩ = some (.int .i64 aT) := (blk_cell aB.out 3).trans rfl
    have eM : wc.cell? ⟨aL, 4, none⟩ = some (.int .i64 aU) := (blk_cell aB.out 4).trans rfl
    have eN := blk_frozen aB.out 0
    have eO := blk_frozen aB.out 1
    have eP := blk_frozen aB.out 2
    have eQ := blk_frozen aB.out 3
    have eR := blk_frozen aB.out 4
    go_wp2_with (first | ((with_reducible refine gate_callee (f := 16) rfl ?_); refine goesL_ (some 22) rfl rfl Try.func16 (by kernel_rfl) rfl #[.agg #[.slice bK aR.length bL, .slice bM aS.length bN, .int .i64 1, .int .i64 aT, .int .i64 aU]] rfl (by (try simp only [List.map_toArray, List.map_cons, List.map_nil]); first | done | rfl | (simp only [List.length_drop, List.length_take]; rfl)) ?_; (with_reducible refine (standbyref56_Check.calls kj2 _ _ aR _ _ aS 1 aT aU t497 _ ?side1 ?side2 ?side3 ?side4 A10.out).mono ?_); (case side1 => exact Kd.C_below dN.out (qW HB.out)); (case side2 => exact dO.out); (case side3 => exact Kd.C_below dP.out (qW HB.out)); (case side4 => exact dQ.out); rintro e w14 ⟨rfl, hb⟩; refine ⟨_, rfl, ?_⟩; have n0_ := Aside0.mk (blk_below (g := aL) (o := .cells #[.slice bK aR.length bL, .slice bM aS.length bN, .int .i64 1, .int .i64 aT, .int .i64 aU] 24 (0, 0)) (by (with_reducible repeat (first | refine blk_drewN ?_ _ | refine blk_drew ?_ | refine blk_alloc ?_ _)); refine blk_put (cs := #[.slice bK aR.length bL, .slice bM aS.length bN, .int .i64 bU, .int .i64 aT, .int .i64 aU]) ?_ 2 _ rfl; exact qB aB.out) hb); have n1_ := Aside0.mk (blk_below (g := aD) (o := .cells #[.slice none 0 0, .slice none 0 0, .slice none 0 0, .slice none 0 0, .int .i64 0] 28 (0, 0)) (by (with_reducible repeat (first | refine blk_drewN ?_ _ | refine blk_drew ?_ | refine blk_alloc ?_ _)); refine blk_far ?_ bV.out _; exact qB aC.out) hb); have n2_ := Aside0.mk (below_step (qW HB.out) hb); clear aB aC HB; have aB := n0_; have aC := n1_; have HB := n2_; clear n0_ n1_ n2_; (try clear hb); (try clear hb2); (try clear hk); (try clear hi)) | ((with_reducible refine gate_dst (N := 9) rfl ?_); refine box_event ?hg (N := 9) ?hd (cs := #[.slice none 0 0, .slice none 0 0, .slice none 0 0, .slice none 0 0, .int .i64 0]) (t := 28) ?hr ?_; (case hd => rfl); (case hg => rfl); (case hr => first | (go_simp; done) | (go_simp; rfl)); intro aE hg w15 hbox hb; have n0_ := Aside0.mk (blk_below (qB aB.out) hb); have n1_ := Aside0.mk (blk_below (qB aC.out) hb); have n2_ := Aside0.mk (below_step (qW HB.out) hb); have n3_ := Aside0.mk (hbox); have n4_ := Aside0.mk ((by rw [hg]; exact (below_size (qW HB.out)) : w.heap.size ≤ aE)); have n5_ := Aside0.mk ((by rw [hg]; exact (below_size (qW HB.out)) : w.heap.size ≤ aE)); have n6_ := Aside0.mk ((by rw [hg]; exact Nat.ne_of_lt (blk_lt (qB aB.out)) : aL ≠ aE)); have n7_ := Aside0.mk ((by rw [hg]; exact Nat.ne_of_gt (blk_lt (qB aB.out)) : aE ≠ aL)); have n8_ := Aside0.mk ((by rw [hg]; exact Nat.ne_of_lt (blk_lt (qB aC.out)) : aD ≠ aE)); have n9_ := Aside0.mk ((by rw [hg]; exact Nat.ne_of_gt (blk_lt (qB aC.out)) : aE ≠ aD)); clear aB aC HB; have aB := n0_; have aC := n1_; have HB := n2_; have aI := n3_; have iM := n4_; have cJ := n5_; have bY := n6_; have cK := n7_; have bQ := n8_; have aV := n9_; clear n0_ n1_ n2_ n3_ n4_ n5_ n6_ n7_ n8_ n9_ hb hbox hg))
    go_loopg [8, 10] kj2 (fun kq v8 v10 w' => ∃ (bG : Int) (aM : Int) (dB : Int) (bH : List Int) (bJ : List Int) (bO : List Int) (bR : List Int) (aX : Int) (bI : Value) (bF : Value) (bD : Value) (bC : Value), v8 = .int .i64 bG ∧ v10 = .int .i64 aM ∧ Aside0 (standbyref56_Best.l0 kq a1 bG aM aR aS dB aT aU bH bJ bO bR aX = some (r1, r2, r3, r4, r5, r6, r7)) ∧ Aside0 (kq ≤ kj2) ∧ Aside0 (Kd.R (Kd.int .i64) 3 w' w.heap.size (fun k_ => some k_ ≠ (bF : Value).ownBlock ∧ some k_ ≠ (bD : Value).ownBlock ∧ some k_ ≠ (bC : Value).ownBlock) bI bH) ∧ Aside0 (Kd.R (Kd.int .i64) 3 w' w.heap.size (fun k_ => some k_ ≠ (bI : Value).ownBlock ∧ some k_ ≠ (bD : Value).ownBlock ∧ some k_ ≠ (bC : Value).ownBlock) bF bJ) ∧ Aside0 (Kd.R (Kd.int .i64) 3 w' w.heap.size (fun k_ => some k_ ≠ (bI : Value).ownBlock ∧ some k_ ≠ (bF : Value).ownBlock ∧ some k_ ≠ (bC : Value).ownBlock) bD bO) ∧ Aside0 (Kd.R (Kd.int .i64) 3 w' w.heap.size (fun k_ => some k_ ≠ (bI : Value).ownBlock ∧ some k_ ≠ (bF : Value).ownBlock ∧ some k_ ≠ (bD : Value).ownBlock) bC bR) ∧ Aside0 (w'.heap[aL]? = some (.cells #[(.slice bK aR.length bL), (.slice bM aS.length bN), .int .i64 dB, .int .i64 aT, .int .i64 aU] 24 (0, 0))) ∧ Aside0 (w'.heap[aD]? = some (.cells #[(.slice none 0 0), (.slice none 0 0), (.slice none 0 0), (.slice none 0 0), .int .i64 0] 28 (0, 0))) ∧ Aside0 (w'.heap[aE]? = some (.cells #[bI, bF, bD, bC, .int .i64 aX] 28 (0, 0))) ∧ Aside0 (Below w.heap.size w w'))
    case atStart => exact ⟨(0), (1), (1), (([] : List Int)), (([] : List Int)), (([] : List Int)), (([] : List Int)), (0), (.slice none 0 0), (.slice none 0 0), (.slice none 0 0), (.slice none 0 0), (by first | rfl | (simp; done) | (simp [*]; done)), (by first | rfl | (simp; done) | (simp [*]; done)), H', ⟨Nat.le_refl _⟩, ⟨by first | exact Kd.R_nil _ _ _ _ _ | exact Kd.N_nil _ _ _ _ _ | exact Kd.V_nil _ _ _ _ _ | exact Kd.Q_nil _ _ _ _ _ | exact Kd.S_nil _ _ _ _ _⟩, ⟨by first | exact Kd.R_nil _ _ _ _ _ | exact Kd.N_nil _ _ _ _ _ | exact Kd.V_nil _ _ _ _ _ | exact Kd.Q_nil _ _ _ _ _ | exact Kd.S_nil _ _ _ _ _⟩, ⟨by first | exact Kd.R_nil _ _ _ _ _ | exact Kd.N_nil _ _ _ _ _ | exact Kd.V_nil _ _ _ _ _ | exact Kd.Q_nil _ _ _ _ _ | exact Kd.S_nil _ _ _ _ _⟩, ⟨by first | exact Kd.R_nil _ _ _ _ _ | exact Kd.N_nil _ _ _ _ _ | exact Kd.V_nil _ _ _ _ _ | exact Kd.Q_nil _ _ _ _ _ | exact Kd.S_nil _ _ _ _ _⟩, ⟨by exact qB aB.out⟩, ⟨by exact qB aC.out⟩, ⟨by exact qB aI.out⟩, ⟨by repeat (first | (with_reducible first | exact HB.out | apply below_alloc | apply pw_below_drewN | apply below_drew1 | refine below_set ?_ bW.out | refine below_set ?_ bX.out | refine below_set ?_ cJ.out) | exact HB.out)⟩⟩
    case round =>
     clear H'
     try clear c1
     try clear p2
     try clear c3
     try clear c6
     try clear cI
     try clear c7
     try clear c8
     try clear c11
     try clear dR
     try clear dS
     try clear c12
     try clear eI
     try clear eJ
     try clear eK
     try clear eL
     try clear eM
     try clear dY
     try clear dZ
     try clear eA
     try clear eB
     try clear eC
     try clear eN
     try clear eO
     try clear eP
     try clear eQ
     try clear eR
     try clear eD
     try clear eE
     try clear eF
     try clear eG
     try clear eH
     try clear p2
     obtain ⟨bG, aM, dB, bH, bJ, bO, bR, aX, bI, bF, bD, bC, rfl, rfl, HA, HK2, aY, aZ, bA, bB, aB, aC, aI, HB⟩ := hrel
     cases gk with
     | zero => exact absurd HA.out (by simp [standbyref56_Best.l0])
     | succ k2 =>
      have H := HA.out
      clear HA
      simp only [standbyref56_Best.l0] at H
      by_cases c16 : aM ≤ a1
      case neg =>
       rw [if_neg c16] at H
       have eS : decide (aM ≤ a1) = false := decide_eq_false c16
       clear c16
       by_cases c48 : bG = 0
       ·rw [if_pos c48] at H
        have fP : (bG == 0) = true := beq_iff_eq.mpr c48
        have fQ : (bG != 0) = false := bne_eq_false_iff_eq.mpr c48
        clear c48
        simp only [Option.some.injEq, Prod.mk.injEq] at H
        obtain ⟨rfl, rfl, rfl, rfl, rfl, rfl, rfl⟩ := H
        have iN := bV.out
        have iO := cD.out
        have iP := bQ.out
        have iQ := aV.out
        have iR : wr.cell? ⟨aD, 0, none⟩ = some (.slice none 0 0) := (blk_cell aC.out 0).trans rfl
        have iS : wr.cell? ⟨aD, 1, none⟩ = some (.slice none 0 0) := (blk_cell aC.out 1).trans rfl
        have iT : wr.cell? ⟨aD, 2, none⟩ = some (.slice none 0 0) := (blk_cell aC.out 2).trans rfl
        have iU : wr.cell? ⟨aD, 3, none⟩ = some (.slice none 0 0) := (blk_cell aC.out 3).trans rfl
        have iV : wr.cell? ⟨aD, 4, none⟩ = some (.int .i64 0) := (blk_cell aC.out 4).trans rfl
        have iW := blk_frozen aC.out 0
        have iX := blk_frozen aC.out 1
        have iY := blk_frozen aC.out 2
        have iZ := blk_frozen aC.out 3
        have jA := blk_frozen aC.out 4
        go_wp2
        refine bodyPost_ret (results_list (rs := [.tmp 4, .cell 5 28, .tmp 6]) rfl (by simp) (.tmp (.cell aD 28 #[.slice none 0 0, .slice none 0 0, .slice none 0 0, .slice none 0 0, .int .i64 0] (0, 0) _ rfl (by (with_reducible repeat (first | refine blk_drewN ?_ _ | refine blk_drew ?_ | refine blk_alloc ?_ _)); refine blk_put (cs := #[.slice none 0 0, .slice none 0 0, .slice none 0 0, .slice none 0 0, .int .i64 0]) ?_ 4 _ rfl; (with_reducible repeat (first | refine blk_drewN ?_ _ | refine blk_drew ?_ | refine blk_alloc ?_ _)); refine blk_put (cs := #[.slice none 0 0, .slice none 0 0, .slice none 0 0, .slice none 0 0, .int .i64 0]) ?_ 3 _ rfl; (with_reducible repeat (first | refine blk_drewN ?_ _ | refine blk_drew ?_ | refine blk_alloc ?_ _)); refine blk_put (cs := #[.slice none 0 0, .slice none 0 0, .slice none 0 0, .slice none 0 0, .int .i64 0]) ?_ 2 _ rfl; (with_reducible repeat (first | refine blk_drewN ?_ _ | refine blk_drew ?_ | refine blk_alloc ?_ _)); refine blk_put (cs := #[.slice none 0 0, .slice none 0 0, .slice none 0 0, .slice none 0 0, .int .i64 0]) ?_ 1 _ rfl; (with_reducible repeat (first | refine blk_drewN ?_ _ | refine blk_drew ?_ | refine blk_alloc ?_ _)); refine blk_put (cs := #[.slice none 0 0, .slice none 0 0, .slice none 0 0, .slice none 0 0, .int .i64 0]) ?_ 0 _ rfl; exact qB aC.out) Try.underlying28 rfl (by kernel_rfl) (.tmp .nil)))) rfl ?_
        exact ⟨_, _, _, _, by first | rfl | (simp [errW_none, errW_some] <;> rfl) | (simp [*, errW_none, errW_some] <;> rfl), by first | exact Kd.R_nil _ _ _ _ _ | exact Kd.N_nil _ _ _ _ _ | exact Kd.V_nil _ _ _ _ _ | exact Kd.Q_nil _ _ _ _ _ | exact Kd.S_nil _ _ _ _ _, by first | exact Kd.R_nil _ _ _ _ _ | exact Kd.N_nil _ _ _ _ _ | exact Kd.V_nil _ _ _ _ _ | exact Kd.Q_nil _ _ _ _ _ | exact Kd.S_nil _ _ _ _ _, by first | exact Kd.R_nil _ _ _ _ _ | exact Kd.N_nil _ _ _ _ _ | exact Kd.V_nil _ _ _ _ _ | exact Kd.Q_nil _ _ _ _ _ | exact Kd.S_nil _ _ _ _ _, by first | exact Kd.R_nil _ _ _ _ _ | exact Kd.N_nil _ _ _ _ _ | exact Kd.V_nil _ _ _ _ _ | exact Kd.Q_nil _ _ _ _ _ | exact Kd.S_nil _ _ _ _ _, by repeat (first | (with_reducible first | exact HB.out | apply below_alloc | apply pw_below_drewN | apply below_drew1 | refine below_set ?_ bW.out | refine below_set ?_ bX.out | refine below_set ?_ cJ.out) | exact HB.out)⟩
       ·rw [if_neg c48] at H
        have fP : (bG == 0) = false := beq_eq_false_iff_ne.mpr c48
        have fQ : (bG != 0) = true := bne_iff_ne.mpr c48
        simp only [Option.some.injEq, Prod.mk.injEq] at H
        obtain ⟨rfl, rfl, rfl, rfl, rfl, rfl, rfl⟩ := H
        try go_wp2
        have n0_ := Aside0.mk (Kd.R_drew aY.out)
        have n1_ := Aside0.mk (Kd.R_drew aZ.out)
        have n2_ := Aside0.mk (Kd.R_drew bA.out)
        have n3_ := Aside0.mk (Kd.R_drew bB.out)
        have n4_ := Aside0.mk (blk_drew aB.out)
        have n5_ := Aside0.mk (blk_drew aC.out)
        have n6_ := Aside0.mk (blk_drew aI.out)
        have n7_ := Aside0.mk (below_drew1 HB.out)
        clear aY aZ bA bB aB aC aI HB
        have aY := n0_
        have aZ := n1_
        have bA := n2_
        have bB := n3_
        have aB := n4_
        have aC := n5_
        have aI := n6_
        have HB := n7_
        clear n0_ n1_ n2_ n3_ n4_ n5_ n6_ n7_
        obtain ⟨cE, cF, eT⟩ := Kd.R_slice aY.out
        (first | subst eT | (injection eT with f1_ f2_ f3_; have f4_ := f1_.symm; have f5_ := f3_.symm; clear f1_ f2_ f3_; subst f4_; subst f5_))
        obtain ⟨cG, cH, eU⟩ := Kd.R_slice aZ.out
        (first | subst eU | (injection eU with f1_ f2_ f3_; have f4_ := f1_.symm; have f5_ := f3_.symm; clear f1_ f2_ f3_; subst f4_; subst f5_))
        obtain ⟨cL, cM, eV⟩ := Kd.R_slice bA.out
        (first | subst eV | (injection eV with f1_ f2_ f3_; have f4_ := f1_.symm; have f5_ := f3_.symm; clear f1_ f2_ f3_; subst f4_; subst f5_))
        obtain ⟨cQ, cR, eW⟩ := Kd.R_slice bB.out
        (first | subst eW | (injection eW with f1_ f2_ f3_; have f4_ := f1_.symm; have f5_ := f3_.symm; clear f1_ f2_ f3_; subst f4_; subst f5_))
        refine start_ (n := 5) (S := fun w' => w'.cell? ⟨aE, 0, none⟩ = some (.slice cE bH.length cF) ∧ w'.cell? ⟨aE, 1, none⟩ = some (.slice cG bJ.length cH) ∧ w'.cell? ⟨aE, 2, none⟩ = some (.slice cL bO.length cM) ∧ w'.cell? ⟨aE, 3, none⟩ = some (.slice cQ bR.length cR) ∧ w'.cell? ⟨aE, 4, none⟩ = some (.int .i64 aX)) (ds := []) #[false, false, false, false, false] (by kernel_rfl) rfl rfl ⟨(blk_cell aI.out 0).trans rfl, (blk_cell aI.out 1).trans rfl, (blk_cell aI.out 2).trans rfl, (blk_cell aI.out 3).trans rfl, (blk_cell aI.out 4).trans rfl⟩ (fun hHeld => ?_)
        generalize wr.drew = w52 at aY aZ bA bB aB aC aI HB hHeld ⊢
        refine pure_ (i := 0) (N := some 57) (v := ?_) (a' := ?_) #[true, false, false, false, false] rfl rfl (by kernel_rfl) (fun _ _ _ h => h) (Or.inl ⟨by rfl, ?_⟩) ?_ ?_; rotate_left
        ·intro w'
         go_simp
         with_reducible rfl
        rotate_left
        ·simp only [Act.put, List.setIfInBounds_toArray, List.set_cons_zero, List.set_cons_succ, i64_w, i32_w]
         rfl
        refine pure_ (i := 2) (N := some 4) (v := ?_) (a' := ?_) #[true, false, true, false, false] rfl rfl (by kernel_rfl) (fun _ _ _ h => h) (Or.inl ⟨by rfl, ?_⟩) ?_ ?_; rotate_left
        ·intro w'
         go_simp
         with_reducible rfl
        rotate_left
        ·simp only [Act.put, List.setIfInBounds_toArray, List.set_cons_zero, List.set_cons_succ, i64_w, i32_w]
         rfl
        refine take_ (i := 1) (N := some 58) (v := ?_) (a' := ?_) #[true, true, true, false, false] rfl rfl (by kernel_rfl) (fun _ _ _ h => h) (Or.inl ⟨by rfl, ?_⟩) hHeld ?_ ?_; rotate_left
        ·rintro w' ⟨s0, s1, s2, s3, s4⟩
         go_simp
         with_reducible rfl
        rotate_left
        ·simp only [Act.put, List.setIfInBounds_toArray, List.set_cons_zero, List.set_cons_succ, i64_w, i32_w]
         rfl
        refine one_ (i := 3) (N := none) #[true, true, true, true, false] rfl rfl (by kernel_rfl) (by decide) (fun K hK => ?_)
        have hs54 : w52.cell? ⟨aD, 0, none⟩ = some (.slice none 0 0) := (blk_cell aC.out 0).trans rfl
        have hfs54 := blk_frozen aC.out 0
        have hns54_0 := cD.out
        have hns54_2 := aV.out
        have hms54_0 := bV.out
        have hms54_2 := bQ.out
        have hs56 : w52.cell? ⟨aD, 1, none⟩ = some (.slice none 0 0) := (blk_cell aC.out 1).trans rfl
        have hfs56 := blk_frozen aC.out 1
        have hns56_0 := cD.out
        have hns56_2 := aV.out
        have hms56_0 := bV.out
        have hms56_2 := bQ.out
        have hs58 : w52.cell? ⟨aD, 2, none⟩ = some (.slice none 0 0) := (blk_cell aC.out 2).trans rfl
        have hfs58 := blk_frozen aC.out 2
        have hns58_0 := cD.out
        have hns58_2 := aV.out
        have hms58_0 := bV.out
        have hms58_2 := bQ.out
        have hs60 : w52.cell? ⟨aD, 3, none⟩ = some (.slice none 0 0) := (blk_cell aC.out 3).trans rfl
        have hfs60 := blk_frozen aC.out 3
        have hns60_0 := cD.out
        have hns60_2 := aV.out
        have hms60_0 := bV.out
        have hms60_2 := bQ.out
        have hs61 : w52.cell? ⟨aD, 4, none⟩ = some (.int .i64 0) := (blk_cell aC.out 4).trans rfl
        have hfs61 := blk_frozen aC.out 4
        have hns61_0 := cD.out
        have hns61_2 := aV.out
        have hms61_0 := bV.out
        have hms61_2 := bQ.out
        refine skip_ (w1 := ?_) (by rfl) rfl ?_ ?_; rotate_left
        ·go_simp
         rfl
        refine hK.out _ _ ⟨((cell_far (p := ⟨aD, _, none⟩) aV.out _).trans (((cell_far (p := ⟨aD, _, none⟩) aV.out _).trans (((cell_far (p := ⟨aD, _, none⟩) aV.out _).trans (((cell_far (p := ⟨aD, _, none⟩) aV.out _).trans (((cell_far (p := ⟨aD, _, none⟩) aV.out _).trans (hHeld.1)))))))))), ((cell_far (p := ⟨aD, _, none⟩) aV.out _).trans (((cell_far (p := ⟨aD, _, none⟩) aV.out _).trans (((cell_far (p := ⟨aD, _, none⟩) aV.out _).trans (((cell_far (p := ⟨aD, _, none⟩) aV.out _).trans (((cell_far (p := ⟨aD, _, none⟩) aV.out _).trans (hHeld.2.1)))))))))), ((cell_far (p := ⟨aD, _, none⟩) aV.out _).trans (((cell_far (p := ⟨aD, _, none⟩) aV.out _).trans (((cell_far (p := ⟨aD, _, none⟩) aV.out _).trans (((cell_far (p := ⟨aD, _, none⟩) aV.out _).trans (((cell_far (p := ⟨aD, _, none⟩) aV.out _).trans (hHeld.2.2.1)))))))))), ((cell_far (p := ⟨aD, _, none⟩) aV.out _).trans (((cell_far (p := ⟨aD, _, none⟩) aV.out _).trans (((cell_far (p := ⟨aD, _, none⟩) aV.out _).trans (((cell_far (p := ⟨aD, _, none⟩) aV.out _).trans (((cell_far (p := ⟨aD, _, none⟩) aV.out _).trans (hHeld.2.2.2.1)))))))))), ((cell_far (p := ⟨aD, _, none⟩) aV.out _).trans (((cell_far (p := ⟨aD, _, none⟩) aV.out _).trans (((cell_far (p := ⟨aD, _, none⟩) aV.out _).trans (((cell_far (p := ⟨aD, _, none⟩) aV.out _).trans (((cell_far (p := ⟨aD, _, none⟩) aV.out _).trans (hHeld.2.2.2.2))))))))))⟩ (fun hHeld => ?_); clear hK K
        refine pure_ (i := 4) (N := some 6) (v := ?_) (a' := ?_) #[true, true, true, true, true] rfl rfl (by kernel_rfl) (fun _ _ _ h => h) (Or.inl ⟨by rfl, ?_⟩) ?_ ?_; rotate_left
        ·intro w'
         go_simp
         with_reducible rfl
        rotate_left
        ·simp only [Act.put, List.setIfInBounds_toArray, List.set_cons_zero, List.set_cons_succ, i64_w, i32_w]
         rfl
        refine done_ (by kernel_rfl) ?_
        try go_wp2
        refine bodyPost_ret (results_list (rs := [.tmp 4, .cell 5 28, .tmp 6]) rfl (by simp) (.tmp (.cell aD 28 #[.slice cE bH.length cF, .slice cG bJ.length cH, .slice cL bO.length cM, .slice cQ bR.length cR, .int .i64 aX] (0, 0) _ rfl (by (with_reducible repeat (first | refine blk_drewN ?_ _ | refine blk_drew ?_ | refine blk_alloc ?_ _)); refine blk_put (cs := #[.slice cE bH.length cF, .slice cG bJ.length cH, .slice cL bO.length cM, .slice cQ bR.length cR, .int .i64 0]) ?_ 4 _ rfl; (with_reducible repeat (first | refine blk_drewN ?_ _ | refine blk_drew ?_ | refine blk_alloc ?_ _)); refine blk_put (cs := #[.slice cE bH.length cF, .slice cG bJ.length cH, .slice cL bO.length cM, .slice none 0 0, .int .i64 0]) ?_ 3 _ rfl; (with_reducible repeat (first | refine blk_drewN ?_ _ | refine blk_drew ?_ | refine blk_alloc ?_ _)); refine blk_put (cs := #[.slice cE bH.length cF, .slice cG bJ.length cH, .slice none 0 0, .slice none 0 0, .int .i64 0]) ?_ 2 _ rfl; (with_reducible repeat (first | refine blk_drewN ?_ _ | refine blk_drew ?_ | refine blk_alloc ?_ _)); refine blk_put (cs := #[.slice cE bH.length cF, .slice none 0 0, .slice none 0 0, .slice none 0 0, .int .i64 0]) ?_ 1 _ rfl; (with_reducible repeat (first | refine blk_drewN ?_ _ | refine blk_drew ?_ | refine blk_alloc ?_ _)); refine blk_put (cs := #[.slice none 0 0, .slice none 0 0, .slice none 0 0, .slice none 0 0, .int .i64 0]) ?_ 0 _ rfl; exact qB aC.out) Try.underlying28 rfl (by kernel_rfl) (.tmp .nil)))) rfl ?_
        exact ⟨_, _, _, _, by first | rfl | (simp [errW_none, errW_some] <;> rfl) | (simp [*, errW_none, errW_some] <;> rfl), by exact qR (Kd.R_mono (Kd.R_far (p := ⟨aD, 4, none⟩) (Kd.R_far (p := ⟨aD, 3, none⟩) (Kd.R_far (p := ⟨aD, 2, none⟩) (Kd.R_far (p := ⟨aD, 1, none⟩) (Kd.R_far (p := ⟨aD, 0, none⟩) (Kd.R_types aY.out aC.out (by decide)) (fun _ hk => hk.2) (.slice cE bH.length cF)) (fun _ hk => hk.2) (.slice cG bJ.length cH)) (fun _ hk => hk.2) (.slice cL bO.length cM)) (fun _ hk => hk.2) (.slice cQ bR.length cR)) (fun _ hk => hk.2) (.int .i64 aX)) (fun _ hk => ⟨hk.1.1, ⟨hk.1.2.1, hk.1.2.2⟩⟩)), by exact qR (Kd.R_mono (Kd.R_far (p := ⟨aD, 4, none⟩) (Kd.R_far (p := ⟨aD, 3, none⟩) (Kd.R_far (p := ⟨aD, 2, none⟩) (Kd.R_far (p := ⟨aD, 1, none⟩) (Kd.R_far (p := ⟨aD, 0, none⟩) (Kd.R_types aZ.out aC.out (by decide)) (fun _ hk => hk.2) (.slice cE bH.length cF)) (fun _ hk => hk.2) (.slice cG bJ.length cH)) (fun _ hk => hk.2) (.slice cL bO.length cM)) (fun _ hk => hk.2) (.slice cQ bR.length cR)) (fun _ hk => hk.2) (.int .i64 aX)) (fun _ hk => ⟨hk.1.1, ⟨hk.1.2.1, hk.1.2.2⟩⟩)), by exact qR (Kd.R_mono (Kd.R_far (p := ⟨aD, 4, none⟩) (Kd.R_far (p := ⟨aD, 3, none⟩) (Kd.R_far (p := ⟨aD, 2, none⟩) (Kd.R_far (p := ⟨aD, 1, none⟩) (Kd.R_far (p := ⟨aD, 0, none⟩) (Kd.R_types bA.out aC.out (by decide)) (fun _ hk => hk.2) (.slice cE bH.length cF)) (fun _ hk => hk.2) (.slice cG bJ.length cH)) (fun _ hk => hk.2) (.slice cL bO.length cM)) (fun _ hk => hk.2) (.slice cQ bR.length cR)) (fun _ hk => hk.2) (.int .i64 aX)) (fun _ hk => ⟨hk.1.1, ⟨hk.1.2.1, hk.1.2.2⟩⟩)), by exact qR (Kd.R_mono (Kd.R_far (p := ⟨aD, 4, none⟩) (Kd.R_far (p := ⟨aD, 3, none⟩) (Kd.R_far (p := ⟨aD, 2, none⟩) (Kd.R_far (p := ⟨aD, 1, none⟩) (Kd.R_far (p := ⟨aD, 0, none⟩) (Kd.R_types bB.out aC.out (by decide)) (fun _ hk => hk.2) (.slice cE bH.length cF)) (fun _ hk => hk.2) (.slice cG bJ.length cH)) (fun _ hk => hk.2) (.slice cL bO.length cM)) (fun _ hk => hk.2) (.slice cQ bR.length cR)) (fun _ hk => hk.2) (.int .i64 aX)) (fun _ hk => ⟨hk.1.1, ⟨hk.1.2.1, hk.1.2.2⟩⟩)), by repeat (first | (with_reducible first | exact HB.out | apply below_alloc | apply pw_below_drewN | apply below_drew1 | refine below_set ?_ bW.out | refine below_set ?_ bX.out | refine below_set ?_ cJ.out) | exact HB.out)⟩
      rw [if_pos c16] at H
      have eS : decide (aM ≤ a1) = true := decide_eq_true c16
      clear c16
      replace H := Option.bind_eq_some_iff.mp H
      obtain ⟨⟨t499, t502, t505, t508, t511, t512⟩, A170, H⟩ := H
      replace H : (if t512 = 0 then (if bG = 0 then (standbyref56_Best.j2 k2 a1 bG aM true aR aS aM aT aU bH bJ bO bR aX t499 t502 t505 t508 t511) else (standbyref56_Best.j2 k2 a1 bG aM (decide (t511 < aX)) aR aS aM aT aU bH bJ bO bR aX t499 t502 t505 t508 t511)) else (standbyref56_Best.j2 k2 a1 bG aM false aR aS aM aT aU bH bJ bO bR aX t499 t502 t505 t508 t511)) = some (r1, r2, r3, r4, r5, r6, r7) := H
      have A17 := Aside0.mk A170
      clear A170
      have dT := Aside0.mk H
      clear H
      have jB := cD.out
      have jC := bV.out
      have jD := bY.out
      have jE := cK.out
      have fR : wr.cell? ⟨aL, 0, none⟩ = some (.slice bK aR.length bL) := (blk_cell aB.out 0).trans rfl
      have fS : wr.cell? ⟨aL, 1, none⟩ = some (.slice bM aS.length bN) := (blk_cell aB.out 1).trans rfl
      have fT : wr.cell? ⟨aL, 2, none⟩ = some (.int .i64 dB) := (blk_cell aB.out 2).trans rfl
      have fU : wr.cell? ⟨aL, 3, none⟩ = some (.int .i64 aT) := (blk_cell aB.out 3).trans rfl
      have fV : wr.cell? ⟨aL, 4, none⟩ = some (.int .i64 aU) := (blk_cell aB.out 4).trans rfl
      have fW := blk_frozen aB.out 0
      have fX := blk_frozen aB.out 1
      have fY := blk_frozen aB.out 2
      have fZ := blk_frozen aB.out 3
      have gA := blk_frozen aB.out 4
      go_upto_region 14 with (first | ((with_reducible refine gate_callee (f := 14) rfl ?_); refine goesL_ (some 36) rfl rfl Try.func14 (by kernel_rfl) rfl #[.agg #[.slice bK aR.length bL, .slice bM aS.length bN, .int .i64 aM, .int .i64 aT, .int .i64 aU]] rfl (by (try simp only [List.map_toArray, List.map_cons, List.map_nil]); first | done | rfl | (simp only [List.length_drop, List.length_take]; rfl)) ?_; (with_reducible refine (standbyref56_Plan.calls k2 _ _ aR _ _ aS aM aT aU t499 t502 t505 t508 t511 t512 _ ?side1 ?side2 ?side3 ?side4 A17.out).mono ?_); (case side1 => exact Kd.C_below dN.out (qW HB.out)); (case side2 => exact dO.out); (case side3 => exact Kd.C_below dP.out (qW HB.out)); (case side4 => exact dQ.out); rintro e w22 ⟨v500, v503, v506, v509, rfl, ho0, ho1, ho2, ho3, hb⟩; refine ⟨_, rfl, ?_⟩; have n0_ := Aside0.mk (Kd.R_mono (Kd.R_told (Kd.R_told (Kd.R_told (Kd.R_told (Kd.R_old (qR (Kd.R_mono (Kd.R_far (p := ⟨aL, 2, none⟩) (Kd.R_types aY.out aB.out (by decide)) (fun _ hk => hk.2) (.int .i64 aM)) (fun _ h_ => h_.1))) hb) (Kd.R_base ho0)) (Kd.R_base ho1)) (Kd.R_base ho2)) (Kd.R_base ho3)) (fun _ h_ => h_.1)); have n1_ := Aside0.mk (Kd.R_mono (Kd.R_told (Kd.R_told (Kd.R_told (Kd.R_told (Kd.R_old (qR (Kd.R_mono (Kd.R_far (p := ⟨aL, 2, none⟩) (Kd.R_types aZ.out aB.out (by decide)) (fun _ hk => hk.2) (.int .i64 aM)) (fun _ h_ => h_.1))) hb) (Kd.R_base ho0)) (Kd.R_base ho1)) (Kd.R_base ho2)) (Kd.R_base ho3)) (fun _ h_ => h_.1)); have n2_ := Aside0.mk (Kd.R_mono (Kd.R_told (Kd.R_told (Kd.R_told (Kd.R_told (Kd.R_old (qR (Kd.R_mono (Kd.R_far (p := ⟨aL, 2, none⟩) (Kd.R_types bA.out aB.out (by decide)) (fun _ hk => hk.2) (.int .i64 aM)) (fun _ h_ => h_.1))) hb) (Kd.R_base ho0)) (Kd.R_base ho1)) (Kd.R_base ho2)) (Kd.R_base ho3)) (fun _ h_ => h_.1)); have n3_ := Aside0.mk (Kd.R_mono (Kd.R_told (Kd.R_told (Kd.R_told (Kd.R_told (Kd.R_old (qR (Kd.R_mono (Kd.R_far (p := ⟨aL, 2, none⟩) (Kd.R_types bB.out aB.out (by decide)) (fun _ hk => hk.2) (.int .i64 aM)) (fun _ h_ => h_.1))) hb) (Kd.R_base ho0)) (Kd.R_base ho1)) (Kd.R_base ho2)) (Kd.R_base ho3)) (fun _ h_ => h_.1)); have n4_ := Aside0.mk (Kd.R_lower (Kd.R_new' (Kd.R_new' (Kd.R_new' (Kd.R_new' ho0 (Kd.R_lt (qR (Kd.R_mono (Kd.R_far (p := ⟨aL, 2, none⟩) (Kd.R_types aY.out aB.out (by decide)) (fun _ hk => hk.2) (.int .i64 aM)) (fun _ h_ => h_.1))))) (Kd.R_lt (qR (Kd.R_mono (Kd.R_far (p := ⟨aL, 2, none⟩) (Kd.R_types aZ.out aB.out (by decide)) (fun _ hk => hk.2) (.int .i64 aM)) (fun _ h_ => h_.1))))) (Kd.R_lt (qR (Kd.R_mono (Kd.R_far (p := ⟨aL, 2, none⟩) (Kd.R_types bA.out aB.out (by decide)) (fun _ hk => hk.2) (.int .i64 aM)) (fun _ h_ => h_.1))))) (Kd.R_lt (qR (Kd.R_mono (Kd.R_far (p := ⟨aL, 2, none⟩) (Kd.R_types bB.out aB.out (by decide)) (fun _ hk => hk.2) (.int .i64 aM)) (fun _ h_ => h_.1))))) (below_size (qW HB.out))); have n5_ := Aside0.mk (Kd.R_lower (Kd.R_new' (Kd.R_new' (Kd.R_new' (Kd.R_new' ho1 (Kd.R_lt (qR (Kd.R_mono (Kd.R_far (p := ⟨aL, 2, none⟩) (Kd.R_types aY.out aB.out (by decide)) (fun _ hk => hk.2) (.int .i64 aM)) (fun _ h_ => h_.1))))) (Kd.R_lt (qR (Kd.R_mono (Kd.R_far (p := ⟨aL, 2, none⟩) (Kd.R_types aZ.out aB.out (by decide)) (fun _ hk => hk.2) (.int .i64 aM)) (fun _ h_ => h_.1))))) (Kd.R_lt (qR (Kd.R_mono (Kd.R_far (p := ⟨aL, 2, none⟩) (Kd.R_types bA.out aB.out (by decide)) (fun _ hk => hk.2) (.int .i64 aM)) (fun _ h_ => h_.1))))) (Kd.R_lt (qR (Kd.R_mono (Kd.R_far (p := ⟨aL, 2, none⟩) (Kd.R_types bB.out aB.out (by decide)) (fun _ hk => hk.2) (.int .i64 aM)) (fun _ h_ => h_.1))))) (below_size (qW HB.out))); have n6_ := Aside0.mk (Kd.R_lower (Kd.R_new' (Kd.R_new' (Kd.R_new' (Kd.R_new' ho2 (Kd.R_lt (qR (Kd.R_mono (Kd.R_far (p := ⟨aL, 2, none⟩) (Kd.R_types aY.out aB.out (by decide)) (fun _ hk => hk.2) (.int .i64 aM)) (fun _ h_ => h_.1))))) (Kd.R_lt (qR (Kd.R_mono (Kd.R_far (p := ⟨aL, 2, none⟩) (Kd.R_types aZ.out aB.out (by decide)) (fun _ hk => hk.2) (.int .i64 aM)) (fun _ h_ => h_.1))))) (Kd.R_lt (qR (Kd.R_mono (Kd.R_far (p := ⟨aL, 2, none⟩) (Kd.R_types bA.out aB.out (by decide)) (fun _ hk => hk.2) (.int .i64 aM)) (fun _ h_ => h_.1))))) (Kd.R_lt (qR (Kd.R_mono (Kd.R_far (p := ⟨aL, 2, none⟩) (Kd.R_types bB.out aB.out (by decide)) (fun _ hk => hk.2) (.int .i64 aM)) (fun _ h_ => h_.1))))) (below_size (qW HB.out))); have n7_ := Aside0.mk (Kd.R_lower (Kd.R_new' (Kd.R_new' (Kd.R_new' (Kd.R_new' ho3 (Kd.R_lt (qR (Kd.R_mono (Kd.R_far (p := ⟨aL, 2, none⟩) (Kd.R_types aY.out aB.out (by decide)) (fun _ hk => hk.2) (.int .i64 aM)) (fun _ h_ => h_.1))))) (Kd.R_lt (qR (Kd.R_mono (Kd.R_far (p := ⟨aL, 2, none⟩) (Kd.R_types aZ.out aB.out (by decide)) (fun _ hk => hk.2) (.int .i64 aM)) (fun _ h_ => h_.1))))) (Kd.R_lt (qR (Kd.R_mono (Kd.R_far (p := ⟨aL, 2, none⟩) (Kd.R_types bA.out aB.out (by decide)) (fun _ hk => hk.2) (.int .i64 aM)) (fun _ h_ => h_.1))))) (Kd.R_lt (qR (Kd.R_mono (Kd.R_far (p := ⟨aL, 2, none⟩) (Kd.R_types bB.out aB.out (by decide)) (fun _ hk => hk.2) (.int .i64 aM)) (fun _ h_ => h_.1))))) (below_size (qW HB.out))); have n8_ := Aside0.mk (blk_below (g := aL) (o := .cells #[.slice bK aR.length bL, .slice bM aS.length bN, .int .i64 aM, .int .i64 aT, .int .i64 aU] 24 (0, 0)) (by (with_reducible repeat (first | refine blk_drewN ?_ _ | refine blk_drew ?_ | refine blk_alloc ?_ _)); refine blk_put (cs := #[.slice bK aR.length bL, .slice bM aS.length bN, .int .i64 dB, .int .i64 aT, .int .i64 aU]) ?_ 2 _ rfl; exact qB aB.out) hb); have n9_ := Aside0.mk (blk_below (g := aD) (o := .cells #[.slice none 0 0, .slice none 0 0, .slice none 0 0, .slice none 0 0, .int .i64 0] 28 (0, 0)) (by (with_reducible repeat (first | refine blk_drewN ?_ _ | refine blk_drew ?_ | refine blk_alloc ?_ _)); refine blk_far ?_ bV.out _; exact qB aC.out) hb); have cN := Aside0.mk (blk_below (g := aE) (o := .cells #[bI, bF, bD, bC, .int .i64 aX] 28 (0, 0)) (by (with_reducible repeat (first | refine blk_drewN ?_ _ | refine blk_drew ?_ | refine blk_alloc ?_ _)); refine blk_far ?_ cK.out _; exact qB aI.out) hb); have cO := Aside0.mk (below_step (qW HB.out) hb); clear aY aZ bA bB aB aC aI HB; have aY := n0_; have aZ := n1_; have bA := n2_; have bB := n3_; have cS := n4_; have cT := n5_; have cU := n6_; have cV := n7_; have aB := n8_; have aC := n9_; have aI := cN; have HB := cO; clear n0_ n1_ n2_ n3_ n4_ n5_ n6_ n7_ n8_ n9_ cN cO; (try clear hb); (try clear hb2); (try clear hk); (try clear hi); (try clear ho0); (try clear ho1); (try clear ho2); (try clear ho3)) | ((with_reducible refine gate_dst (N := 11) rfl ?_); refine box_event ?hg (N := 11) ?hd (cs := #[.slice none 0 0, .slice none 0 0, .slice none 0 0, .slice none 0 0, .int .i64 0]) (t := 28) ?hr ?_; (case hd => rfl); (case hg => rfl); (case hr => first | (go_simp; done) | (go_simp; rfl)); intro aA hg w23 hbox hb; have n0_ := Aside0.mk (Kd.R_below (qR aY.out) hb); have n1_ := Aside0.mk (Kd.R_below (qR aZ.out) hb); have n2_ := Aside0.mk (Kd.R_below (qR bA.out) hb); have n3_ := Aside0.mk (Kd.R_below (qR bB.out) hb); have n4_ := Aside0.mk (Kd.R_below (qR cS.out) hb); have n5_ := Aside0.mk (Kd.R_below (qR cT.out) hb); have n6_ := Aside0.mk (Kd.R_below (qR cU.out) hb); have n7_ := Aside0.mk (Kd.R_below (qR cV.out) hb); have n8_ := Aside0.mk (blk_below (qB aB.out) hb); have n9_ := Aside0.mk (blk_below (qB aC.out) hb); have cN := Aside0.mk (blk_below (qB aI.out) hb); have cO := Aside0.mk (below_step (qW HB.out) hb); have dC := Aside0.mk (hbox); have eX := Aside0.mk ((by rw [hg]; exact (below_size (qW HB.out)) : w.heap.size ≤ aA)); have eY := Aside0.mk ((by rw [hg]; exact (below_size (qW HB.out)) : w.heap.size ≤ aA)); have eZ := Aside0.mk ((by rw [hg]; exact Nat.ne_of_lt (blk_lt (qB aB.out)) : aL ≠ aA)); have fA := Aside0.mk ((by rw [hg]; exact Nat.ne_of_gt (blk_lt (qB aB.out)) : aA ≠ aL)); have fB := Aside0.mk ((by rw [hg]; exact Nat.ne_of_lt (blk_lt (qB aC.out)) : aD ≠ aA)); have fC := Aside0.mk ((by rw [hg]; exact Nat.ne_of_gt (blk_lt (qB aC.out)) : aA ≠ aD)); have fD := Aside0.mk ((by rw [hg]; exact Nat.ne_of_lt (blk_lt (qB aI.out)) : aE ≠ aA)); have fE := Aside0.mk ((by rw [hg]; exact Nat.ne_of_gt (blk_lt (qB aI.out)) : aA ≠ aE)); clear aY aZ bA bB cS cT cU cV aB aC aI HB; have aY := n0_; have aZ := n1_; have bA := n2_; have bB := n3_; have cS := n4_; have cT := n5_; have cU := n6_; have cV := n7_; have aB := n8_; have aC := n9_; have aI := cN; have HB := cO; have aF := dC; have jF := eX; have dD := eY; have bS := eZ; have fF := fA; have bT := fB; have fG := fC; have bE := fD; have aW := fE; clear n0_ n1_ n2_ n3_ n4_ n5_ n6_ n7_ n8_ n9_ cN cO dC eX eY eZ fA fB fC fD fE hb hbox hg; obtain ⟨aG, aH, gB⟩ := Kd.R_slice cS.out; subst gB; have jG := fF.out; have jH := bS.out; have jI := fG.out; have jJ := bT.out; have jK := aW.out; have jL := bE.out; have gC : w23.cell? ⟨aA, 0, none⟩ = some (.slice none 0 0) := (blk_cell aF.out 0).trans rfl; have gD : w23.cell? ⟨aA, 1, none⟩ = some (.slice none 0 0) := (blk_cell aF.out 1).trans rfl; have gE : w23.cell? ⟨aA, 2, none⟩ = some (.slice none 0 0) := (blk_cell aF.out 2).trans rfl; have gF : w23.cell? ⟨aA, 3, none⟩ = some (.slice none 0 0) := (blk_cell aF.out 3).trans rfl; have gG : w23.cell? ⟨aA, 4, none⟩ = some (.int .i64 0) := (blk_cell aF.out 4).trans rfl; have gH := blk_frozen aF.out 0; have gI := blk_frozen aF.out 1; have gJ := blk_frozen aF.out 2; have gK := blk_frozen aF.out 3; have gL := blk_frozen aF.out 4; obtain ⟨aJ, aK, gM⟩ := Kd.R_slice cT.out; subst gM; obtain ⟨aN, aO, gN⟩ := Kd.R_slice cU.out; subst gN; obtain ⟨aP, aQ, gO⟩ := Kd.R_slice cV.out; subst gO))
      (try simp only [Act.put, List.setIfInBounds_toArray, List.set_cons_zero, List.set_cons_succ])
      go_cut [51] (fun v51 wc => ∃ (kq : Nat) (dK : Bool), v51 = .bool dK ∧ Aside0 (standbyref56_Best.j2 kq a1 bG aM dK aR aS aM aT aU bH bJ bO bR aX t499 t502 t505 t508 t511 = some (r1, r2, r3, r4, r5, r6, r7)) ∧ Aside0 (kq ≤ k2) ∧ Aside0 (Kd.R (Kd.int .i64) 3 wc w.heap.size (fun k_ => some k_ ≠ (bF : Value).ownBlock ∧ some k_ ≠ (bD : Value).ownBlock ∧ some k_ ≠ (bC : Value).ownBlock ∧ some k_ ≠ ((.slice aG t499.length aH) : Value).ownBlock ∧ some k_ ≠ ((.slice aJ t502.length aK) : Value).ownBlock ∧ some k_ ≠ ((.slice aN t505.length aO) : Value).ownBlock ∧ some k_ ≠ ((.slice aP t508.length aQ) : Value).ownBlock) bI bH) ∧ Aside0 (Kd.R (Kd.int .i64) 3 wc w.heap.size (fun k_ => some k_ ≠ (bI : Value).ownBlock ∧ some k_ ≠ (bD : Value).ownBlock ∧ some k_ ≠ (bC : Value).ownBlock ∧ some k_ ≠ ((.slice aG t499.length aH) : Value).ownBlock ∧ some k_ ≠ ((.slice aJ t502.length aK) : Value).ownBlock ∧ some k_ ≠ ((.slice aN t505.length aO) : Value).ownBlock ∧ some k_ ≠ ((.slice aP t508.length aQ) : Value).ownBlock) bF bJ) ∧ Aside0 (Kd.R (Kd.int .i64) 3 wc w.heap.size (fun k_ => some k_ ≠ (bI : Value).ownBlock ∧ some k_ ≠ (bF : Value).ownBlock ∧ some k_ ≠ (bC : Value).ownBlock ∧ some k_ ≠ ((.slice aG t499.length aH) : Value).ownBlock ∧ some k_ ≠ ((.slice aJ t502.length aK) : Value).ownBlock ∧ some k_ ≠ ((.slice aN t505.length aO) : Value).ownBlock ∧ some k_ ≠ ((.slice aP t508.length aQ) : Value).ownBlock) bD bO) ∧ Aside0 (Kd.R (Kd.int .i64) 3 wc w.heap.size (fun k_ => some k_ ≠ (bI : Value).ownBlock ∧ some k_ ≠ (bF : Value).ownBlock ∧ some k_ ≠ (bD : Value).ownBlock ∧ some k_ ≠ ((.slice aG t499.length aH) : Value).ownBlock ∧ some k_ ≠ ((.slice aJ t502.length aK) : Value).ownBlock ∧ some k_ ≠ ((.slice aN t505.length aO) : Value).ownBlock ∧ some k_ ≠ ((.slice aP t508.length aQ) : Value).ownBlock) bC bR) ∧ Aside0 (Kd.R (Kd.int .i64) 3 wc w.heap.size (fun k_ => some k_ ≠ (bI : Value).ownBlock ∧ some k_ ≠ (bF : Value).ownBlock ∧ some k_ ≠ (bD : Value).ownBlock ∧ some k_ ≠ (bC : Value).ownBlock ∧ some k_ ≠ ((.slice aJ t502.length aK) : Value).ownBlock ∧ some k_ ≠ ((.slice aN t505.length aO) : Value).ownBlock ∧ some k_ ≠ ((.slice aP t508.length aQ) : Value).ownBlock) (.slice aG t499.length aH) t499) ∧ Aside0 (Kd.R (Kd.int .i64) 3 wc w.heap.size (fun k_ => some k_ ≠ (bI : Value).ownBlock ∧ some k_ ≠ (bF : Value).ownBlock ∧ some k_ ≠ (bD : Value).ownBlock ∧ some k_ ≠ (bC : Value).ownBlock ∧ some k_ ≠ ((.slice aG t499.length aH) : Value).ownBlock ∧ some k_ ≠ ((.slice aN t505.length aO) : Value).ownBlock ∧ some k_ ≠ ((.slice aP t508.length aQ) : Value).ownBlock) (.slice aJ t502.length aK) t502) ∧ Aside0 (Kd.R (Kd.int .i64) 3 wc w.heap.size (fun k_ => some k_ ≠ (bI : Value).ownBlock ∧ some k_ ≠ (bF : Value).ownBlock ∧ some k_ ≠ (bD : Value).ownBlock ∧ some k_ ≠ (bC : Value).ownBlock ∧ some k_ ≠ ((.slice aG t499.length aH) : Value).ownBlock ∧ some k_ ≠ ((.slice aJ t502.length aK) : Value).ownBlock ∧ some k_ ≠ ((.slice aP t508.length aQ) : Value).ownBlock) (.slice aN t505.length aO) t505) ∧ Aside0 (Kd.R (Kd.int .i64) 3 wc w.heap.size (fun k_ => some k_ ≠ (bI : Value).ownBlock ∧ some k_ ≠ (bF : Value).ownBlock ∧ some k_ ≠ (bD : Value).ownBlock ∧ some k_ ≠ (bC : Value).ownBlock ∧ some k_ ≠ ((.slice aG t499.length aH) : Value).ownBlock ∧ some k_ ≠ ((.slice aJ t502.length aK) : Value).ownBlock ∧ some k_ ≠ ((.slice aN t505.length aO) : Value).ownBlock) (.slice aP t508.length aQ) t508) ∧ Aside0 (wc.heap[aL]? = some (.cells #[(.slice bK aR.length bL), (.slice bM aS.length bN), .int .i64 aM, .int .i64 aT, .int .i64 aU] 24 (0, 0))) ∧ Aside0 (wc.heap[aD]? = some (.cells #[(.slice none 0 0), (.slice none 0 0), (.slice none 0 0), (.slice none 0 0), .int .i64 0] 28 (0, 0))) ∧ Aside0 (wc.heap[aE]? = some (.cells #[bI, bF, bD, bC, .int .i64 aX] 28 (0, 0))) ∧ Aside0 (wc.heap[aA]? = some (.cells #[(.slice aG t499.length aH), (.slice aJ t502.length aK), (.slice aN t505.length aO), (.slice aP t508.length aQ), .int .i64 t511] 28 (0, 0))) ∧ Aside0 (Below w.heap.size w wc))
      case first =>
       have H := dT.out
       clear dT
       by_cases c32 : t512 = 0
       case neg =>
        rw [if_neg c32] at H
        have dA : (t512 == 0) = false := beq_eq_false_iff_ne.mpr c32
        have fH : (t512 != 0) = true := bne_iff_ne.mpr c32
        (first | rw [dA] | (simp only [i64_w, i32_w]; rw [dA]) | skip)
        have H' := Aside0.mk H
        clear H
        go_wp2
        go_meet
        case rel => exact ⟨_, (false), (by first | rfl | (simp; done) | (simp [*]; done)), H', ⟨by have := HJ2.out; have := HK2.out; first | omega | exact Nat.le_refl _⟩, ⟨by exact qR (Kd.R_mono (Kd.R_far (p := ⟨aA, 4, none⟩) (Kd.R_far (p := ⟨aA, 3, none⟩) (Kd.R_far (p := ⟨aA, 2, none⟩) (Kd.R_far (p := ⟨aA, 1, none⟩) (Kd.R_far (p := ⟨aA, 0, none⟩) (Kd.R_types aY.out aF.out (by decide)) (fun _ hk => hk.2) (.slice aG t499.length aH)) (fun _ hk => hk.2) (.slice aJ t502.length aK)) (fun _ hk => hk.2) (.slice aN t505.length aO)) (fun _ hk => hk.2) (.slice aP t508.length aQ)) (fun _ hk => hk.2) (.int .i64 t511)) (fun _ hk => ⟨hk.1.1.1.1.1.1, ⟨hk.1.1.1.1.1.2.1, ⟨hk.1.1.1.1.1.2.2, ⟨hk.1.1.1.1.2, ⟨hk.1.1.1.2, ⟨hk.1.1.2, hk.1.2⟩⟩⟩⟩⟩⟩))⟩, ⟨by exact qR (Kd.R_mono (Kd.R_far (p := ⟨aA, 4, none⟩) (Kd.R_far (p := ⟨aA, 3, none⟩) (Kd.R_far (p := ⟨aA, 2, none⟩) (Kd.R_far (p := ⟨aA, 1, none⟩) (Kd.R_far (p := ⟨aA, 0, none⟩) (Kd.R_types aZ.out aF.out (by decide)) (fun _ hk => hk.2) (.slice aG t499.length aH)) (fun _ hk => hk.2) (.slice aJ t502.length aK)) (fun _ hk => hk.2) (.slice aN t505.length aO)) (fun _ hk => hk.2) (.slice aP t508.length aQ)) (fun _ hk => hk.2) (.int .i64 t511)) (fun _ hk => ⟨hk.1.1.1.1.1.1, ⟨hk.1.1.1.1.1.2.1, ⟨hk.1.1.1.1.1.2.2, ⟨hk.1.1.1.1.2, ⟨hk.1.1.1.2, ⟨hk.1.1.2, hk.1.2⟩⟩⟩⟩⟩⟩))⟩, ⟨by exact qR (Kd.R_mono (Kd.R_far (p := ⟨aA, 4, none⟩) (Kd.R_far (p := ⟨aA, 3, none⟩) (Kd.R_far (p := ⟨aA, 2, none⟩) (Kd.R_far (p := ⟨aA, 1, none⟩) (Kd.R_far (p := ⟨aA, 0, none⟩) (Kd.R_types bA.out aF.out (by decide)) (fun _ hk => hk.2) (.slice aG t499.length aH)) (fun _ hk => hk.2) (.slice aJ t502.length aK)) (fun _ hk => hk.2) (.slice aN t505.length aO)) (fun _ hk => hk.2) (.slice aP t508.length aQ)) (fun _ hk => hk.2) (.int .i64 t511)) (fun _ hk => ⟨hk.1.1.1.1.1.1, ⟨hk.1.1.1.1.1.2.1, ⟨hk.1.1.1.1.1.2.2, ⟨hk.1.1.1.1.2, ⟨hk.1.1.1.2, ⟨hk.1.1.2, hk.1.2⟩⟩⟩⟩⟩⟩))⟩, ⟨by exact qR (Kd.R_mono (Kd.R_far (p := ⟨aA, 4, none⟩) (Kd.R_far (p := ⟨aA, 3, none⟩) (Kd.R_far (p := ⟨aA, 2, none⟩) (Kd.R_far (p := ⟨aA, 1, none⟩) (Kd.R_far (p := ⟨aA, 0, none⟩) (Kd.R_types bB.out aF.out (by decide)) (fun _ hk => hk.2) (.slice aG t499.length aH)) (fun _ hk => hk.2) (.slice aJ t502.length aK)) (fun _ hk => hk.2) (.slice aN t505.length aO)) (fun _ hk => hk.2) (.slice aP t508.length aQ)) (fun _ hk => hk.2) (.int .i64 t511)) (fun _ hk => ⟨hk.1.1.1.1.1.1, ⟨hk.1.1.1.1.1.2.1, ⟨hk.1.1.1.1.1.2.2, ⟨hk.1.1.1.1.2, ⟨hk.1.1.1.2, ⟨hk.1.1.2, hk.1.2⟩⟩⟩⟩⟩⟩))⟩, ⟨by exact qR (Kd.R_mono (Kd.R_far (p := ⟨aA, 4, none⟩) (Kd.R_far (p := ⟨aA, 3, none⟩) (Kd.R_far (p := ⟨aA, 2, none⟩) (Kd.R_far (p := ⟨aA, 1, none⟩) (Kd.R_far (p := ⟨aA, 0, none⟩) (Kd.R_types cS.out aF.out (by decide)) (fun _ hk => hk.2) (.slice aG t499.length aH)) (fun _ hk => hk.2) (.slice aJ t502.length aK)) (fun _ hk => hk.2) (.slice aN t505.length aO)) (fun _ hk => hk.2) (.slice aP t508.length aQ)) (fun _ hk => hk.2) (.int .i64 t511)) (fun _ hk => ⟨hk.1.1.1.1.2, ⟨hk.1.1.1.2, ⟨hk.1.1.2, ⟨hk.1.2, ⟨hk.1.1.1.1.1.1, ⟨hk.1.1.1.1.1.2.1, hk.1.1.1.1.1.2.2⟩⟩⟩⟩⟩⟩))⟩, ⟨by exact qR (Kd.R_mono (Kd.R_far (p := ⟨aA, 4, none⟩) (Kd.R_far (p := ⟨aA, 3, none⟩) (Kd.R_far (p := ⟨aA, 2, none⟩) (Kd.R_far (p := ⟨aA, 1, none⟩) (Kd.R_far (p := ⟨aA, 0, none⟩) (Kd.R_types cT.out aF.out (by decide)) (fun _ hk => hk.2) (.slice aG t499.length aH)) (fun _ hk => hk.2) (.slice aJ t502.length aK)) (fun _ hk => hk.2) (.slice aN t505.length aO)) (fun _ hk => hk.2) (.slice aP t508.length aQ)) (fun _ hk => hk.2) (.int .i64 t511)) (fun _ hk => ⟨hk.1.1.1.1.2, ⟨hk.1.1.1.2, ⟨hk.1.1.2, ⟨hk.1.2, ⟨hk.1.1.1.1.1.1, ⟨hk.1.1.1.1.1.2.1, hk.1.1.1.1.1.2.2⟩⟩⟩⟩⟩⟩))⟩, ⟨by exact qR (Kd.R_mono (Kd.R_far (p := ⟨aA, 4, none⟩) (Kd.R_far (p := ⟨aA, 3, none⟩) (Kd.R_far (p := ⟨aA, 2, none⟩) (Kd.R_far (p := ⟨aA, 1, none⟩) (Kd.R_far (p := ⟨aA, 0, none⟩) (Kd.R_types cU.out aF.out (by decide)) (fun _ hk => hk.2) (.slice aG t499.length aH)) (fun _ hk => hk.2) (.slice aJ t502.length aK)) (fun _ hk => hk.2) (.slice aN t505.length aO)) (fun _ hk => hk.2) (.slice aP t508.length aQ)) (fun _ hk => hk.2) (.int .i64 t511)) (fun _ hk => ⟨hk.1.1.1.1.2, ⟨hk.1.1.1.2, ⟨hk.1.1.2, ⟨hk.1.2, ⟨hk.1.1.1.1.1.1, ⟨hk.1.1.1.1.1.2.1, hk.1.1.1.1.1.2.2⟩⟩⟩⟩⟩⟩))⟩, ⟨by exact qR (Kd.R_mono (Kd.R_far (p := ⟨aA, 4, none⟩) (Kd.R_far (p := ⟨aA, 3, none⟩) (Kd.R_far (p := ⟨aA, 2, none⟩) (Kd.R_far (p := ⟨aA, 1, none⟩) (Kd.R_far (p := ⟨aA, 0, none⟩) (Kd.R_types cV.out aF.out (by decide)) (fun _ hk => hk.2) (.slice aG t499.length aH)) (fun _ hk => hk.2) (.slice aJ t502.length aK)) (fun _ hk => hk.2) (.slice aN t505.length aO)) (fun _ hk => hk.2) (.slice aP t508.length aQ)) (fun _ hk => hk.2) (.int .i64 t511)) (fun _ hk => ⟨hk.1.1.1.1.2, ⟨hk.1.1.1.2, ⟨hk.1.1.2, ⟨hk.1.2, ⟨hk.1.1.1.1.1.1, ⟨hk.1.1.1.1.1.2.1, hk.1.1.1.1.1.2.2⟩⟩⟩⟩⟩⟩))⟩, ⟨by (with_reducible repeat (first | refine blk_drewN ?_ _ | refine blk_drew ?_ | refine blk_alloc ?_ _)); refine blk_far ?_ bS.out _; (with_reducible repeat (first | refine blk_drewN ?_ _ | refine blk_drew ?_ | refine blk_alloc ?_ _)); refine blk_far ?_ bS.out _; (with_reducible repeat (first | refine blk_drewN ?_ _ | refine blk_drew ?_ | refine blk_alloc ?_ _)); refine blk_far ?_ bS.out _; (with_reducible repeat (first | refine blk_drewN ?_ _ | refine blk_drew ?_ | refine blk_alloc ?_ _)); refine blk_far ?_ bS.out _; (with_reducible repeat (first | refine blk_drewN ?_ _ | refine blk_drew ?_ | refine blk_alloc ?_ _)); refine blk_far ?_ bS.out _; exact qB aB.out⟩, ⟨by (with_reducible repeat (first | refine blk_drewN ?_ _ | refine blk_drew ?_ | refine blk_alloc ?_ _)); refine blk_far ?_ bT.out _; (with_reducible repeat (first | refine blk_drewN ?_ _ | refine blk_drew ?_ | refine blk_alloc ?_ _)); refine blk_far ?_ bT.out _; (with_reducible repeat (first | refine blk_drewN ?_ _ | refine blk_drew ?_ | refine blk_alloc ?_ _)); refine blk_far ?_ bT.out _; (with_reducible repeat (first | refine blk_drewN ?_ _ | refine blk_drew ?_ | refine blk_alloc ?_ _)); refine blk_far ?_ bT.out _; (with_reducible repeat (first | refine blk_drewN ?_ _ | refine blk_drew ?_ | refine blk_alloc ?_ _)); refine blk_far ?_ bT.out _; exact qB aC.out⟩, ⟨by (with_reducible repeat (first | refine blk_drewN ?_ _ | refine blk_drew ?_ | refine blk_alloc ?_ _)); refine blk_far ?_ bE.out _; (with_reducible repeat (first | refine blk_drewN ?_ _ | refine blk_drew ?_ | refine blk_alloc ?_ _)); refine blk_far ?_ bE.out _; (with_reducible repeat (first | refine blk_drewN ?_ _ | refine blk_drew ?_ | refine blk_alloc ?_ _)); refine blk_far ?_ bE.out _; (with_reducible repeat (first | refine blk_drewN ?_ _ | refine blk_drew ?_ | refine blk_alloc ?_ _)); refine blk_far ?_ bE.out _; (with_reducible repeat (first | refine blk_drewN ?_ _ | refine blk_drew ?_ | refine blk_alloc ?_ _)); refine blk_far ?_ bE.out _; exact qB aI.out⟩, ⟨by (with_reducible repeat (first | refine blk_drewN ?_ _ | refine blk_drew ?_ | refine blk_alloc ?_ _)); refine blk_put (cs := #[.slice aG t499.length aH, .slice aJ t502.length aK, .slice aN t505.length aO, .slice aP t508.length aQ, .int .i64 0]) ?_ 4 _ rfl; (with_reducible repeat (first | refine blk_drewN ?_ _ | refine blk_drew ?_ | refine blk_alloc ?_ _)); refine blk_put (cs := #[.slice aG t499.length aH, .slice aJ t502.length aK, .slice aN t505.length aO, .slice none 0 0, .int .i64 0]) ?_ 3 _ rfl; (with_reducible repeat (first | refine blk_drewN ?_ _ | refine blk_drew ?_ | refine blk_alloc ?_ _)); refine blk_put (cs := #[.slice aG t499.length aH, .slice aJ t502.length aK, .slice none 0 0, .slice none 0 0, .int .i64 0]) ?_ 2 _ rfl; (with_reducible repeat (first | refine blk_drewN ?_ _ | refine blk_drew ?_ | refine blk_alloc ?_ _)); refine blk_put (cs := #[.slice aG t499.length aH, .slice none 0 0, .slice none 0 0, .slice none 0 0, .int .i64 0]) ?_ 1 _ rfl; (with_reducible repeat (first | refine blk_drewN ?_ _ | refine blk_drew ?_ | refine blk_alloc ?_ _)); refine blk_put (cs := #[.slice none 0 0, .slice none 0 0, .slice none 0 0, .slice none 0 0, .int .i64 0]) ?_ 0 _ rfl; exact qB aF.out⟩, ⟨by repeat (first | (with_reducible first | exact HB.out | apply below_alloc | apply pw_below_drewN | apply below_drew1 | refine below_set ?_ bW.out | refine below_set ?_ bX.out | refine below_set ?_ cJ.out | refine below_set ?_ dD.out) | exact HB.out)⟩⟩
       rw [if_pos c32] at H
       have dA : (t512 == 0) = true := beq_iff_eq.mpr c32
       have fH : (t512 != 0) = false := bne_eq_false_iff_eq.mpr c32
       clear c32
       (first | rw [dA] | (simp only [i64_w, i32_w]; rw [dA]) | skip)
       by_cases c33 : bG = 0
       ·rw [if_pos c33] at H
        have fI : (bG == 0) = true := beq_iff_eq.mpr c33
        have fJ : (bG != 0) = false := bne_eq_false_iff_eq.mpr c33
        clear c33
        have H' := Aside0.mk H
        clear H
        go_wp2
        go_meet
        case rel => exact ⟨_, (true), (by first | rfl | (simp; done) | (simp [*]; done)), H', ⟨by have := HJ2.out; have := HK2.out; first | omega | exact Nat.le_refl _⟩, ⟨by exact qR (Kd.R_mono (Kd.R_far (p := ⟨aA, 4, none⟩) (Kd.R_far (p := ⟨aA, 3, none⟩) (Kd.R_far (p := ⟨aA, 2, none⟩) (Kd.R_far (p := ⟨aA, 1, none⟩) (Kd.R_far (p := ⟨aA, 0, none⟩) (Kd.R_types aY.out aF.out (by decide)) (fun _ hk => hk.2) (.slice aG t499.length aH)) (fun _ hk => hk.2) (.slice aJ t502.length aK)) (fun _ hk => hk.2) (.slice aN t505.length aO)) (fun _ hk => hk.2) (.slice aP t508.length aQ)) (fun _ hk => hk.2) (.int .i64 t511)) (fun _ hk => ⟨hk.1.1.1.1.1.1, ⟨hk.1.1.1.1.1.2.1, ⟨hk.1.1.1.1.1.2.2, ⟨hk.1.1.1.1.2, ⟨hk.1.1.1.2, ⟨hk.1.1.2, hk.1.2⟩⟩⟩⟩⟩⟩))⟩, ⟨by exact qR (Kd.R_mono (Kd.R_far (p := ⟨aA, 4, none⟩) (Kd.R_far (p := ⟨aA, 3, none⟩) (Kd.R_far (p := ⟨aA, 2, none⟩) (Kd.R_far (p := ⟨aA, 1, none⟩) (Kd.R_far (p := ⟨aA, 0, none⟩) (Kd.R_types aZ.out aF.out (by decide)) (fun _ hk => hk.2) (.slice aG t499.length aH)) (fun _ hk => hk.2) (.slice aJ t502.length aK)) (fun _ hk => hk.2) (.slice aN t505.length aO)) (fun _ hk => hk.2) (.slice aP t508.length aQ)) (fun _ hk => hk.2) (.int .i64 t511)) (fun _ hk => ⟨hk.1.1.1.1.1.1, ⟨hk.1.1.1.1.1.2.1, ⟨hk.1.1.1.1.1.2.2, ⟨hk.1.1.1.1.2, ⟨hk.1.1.1.2, ⟨hk.1.1.2, hk.1.2⟩⟩⟩⟩⟩⟩))⟩, ⟨by exact qR (Kd.R_mono (Kd.R_far (p := ⟨aA, 4, none⟩) (Kd.R_far (p := ⟨aA, 3, none⟩) (Kd.R_far (p := ⟨aA, 2, none⟩) (Kd.R_far (p := ⟨aA, 1, none⟩) (Kd.R_far (p := ⟨aA, 0, none⟩) (Kd.R_types bA.out aF.out (by decide)) (fun _ hk => hk.2) (.slice aG t499.length aH)) (fun _ hk => hk.2) (.slice aJ t502.length aK)) (fun _ hk => hk.2) (.slice aN t505.length aO)) (fun _ hk => hk.2) (.slice aP t508.length aQ)) (fun _ hk => hk.2) (.int .i64 t511)) (fun _ hk => ⟨hk.1.1.1.1.1.1, ⟨hk.1.1.1.1.1.2.1, ⟨hk.1.1.1.1.1.2.2, ⟨hk.1.1.1.1.2, ⟨hk.1.1.1.2, ⟨hk.1.1.2, hk.1.2⟩⟩⟩⟩⟩⟩))⟩, ⟨by exact qR (Kd.R_mono (Kd.R_far (p := ⟨aA, 4, none⟩) (Kd.R_far (p := ⟨aA, 3, none⟩) (Kd.R_far (p := ⟨aA, 2, none⟩) (Kd.R_far (p := ⟨aA, 1, none⟩) (Kd.R_far (p := ⟨aA, 0, none⟩) (Kd.R_types bB.out aF.out (by decide)) (fun _ hk => hk.2) (.slice aG t499.length aH)) (fun _ hk => hk.2) (.slice aJ t502.length aK)) (fun _ hk => hk.2) (.slice aN t505.length aO)) (fun _ hk => hk.2) (.slice aP t508.length aQ)) (fun _ hk => hk.2) (.int .i64 t511)) (fun _ hk => ⟨hk.1.1.1.1.1.1, ⟨hk.1.1.1.1.1.2.1, ⟨hk.1.1.1.1.1.2.2, ⟨hk.1.1.1.1.2, ⟨hk.1.1.1.2, ⟨hk.1.1.2, hk.1.2⟩⟩⟩⟩⟩⟩))⟩, ⟨by exact qR (Kd.R_mono (Kd.R_far (p := ⟨aA, 4, none⟩) (Kd.R_far (p := ⟨aA, 3, none⟩) (Kd.R_far (p := ⟨aA, 2, none⟩) (Kd.R_far (p := ⟨aA, 1, none⟩) (Kd.R_far (p := ⟨aA, 0, none⟩) (Kd.R_types cS.out aF.out (by decide)) (fun _ hk => hk.2) (.slice aG t499.length aH)) (fun _ hk => hk.2) (.slice aJ t502.length aK)) (fun _ hk => hk.2) (.slice aN t505.length aO)) (fun _ hk => hk.2) (.slice aP t508.length aQ)) (fun _ hk => hk.2) (.int .i64 t511)) (fun _ hk => ⟨hk.1.1.1.1.2, ⟨hk.1.1.1.2, ⟨hk.1.1.2, ⟨hk.1.2, ⟨hk.1.1.1.1.1.1, ⟨hk.1.1.1.1.1.2.1, hk.1.1.1.1.1.2.2⟩⟩⟩⟩⟩⟩))⟩, ⟨by exact qR (Kd.R_mono (Kd.R_far (p := ⟨aA, 4, none⟩) (Kd.R_far (p := ⟨aA, 3, none⟩) (Kd.R_far (p := ⟨aA, 2, none⟩) (Kd.R_far (p := ⟨aA, 1, none⟩) (Kd.R_far (p := ⟨aA, 0, none⟩) (Kd.R_types cT.out aF.out (by decide)) (fun _ hk => hk.2) (.slice aG t499.length aH)) (fun _ hk => hk.2) (.slice aJ t502.length aK)) (fun _ hk => hk.2) (.slice aN t505.length aO)) (fun _ hk => hk.2) (.slice aP t508.length aQ)) (fun _ hk => hk.2) (.int .i64 t511)) (fun _ hk => ⟨hk.1.1.1.1.2, ⟨hk.1.1.1.2, ⟨hk.1.1.2, ⟨hk.1.2, ⟨hk.1.1.1.1.1.1, ⟨hk.1.1.1.1.1.2.1, hk.1.1.1.1.1.2.2⟩⟩⟩⟩⟩⟩))⟩, ⟨by exact qR (Kd.R_mono (Kd.R_far (p := ⟨aA, 4, none⟩) (Kd.R_far (p := ⟨aA, 3, none⟩) (Kd.R_far (p := ⟨aA, 2, none⟩) (Kd.R_far (p := ⟨aA, 1, none⟩) (Kd.R_far (p := ⟨aA, 0, none⟩) (Kd.R_types cU.out aF.out (by decide)) (fun _ hk => hk.2) (.slice aG t499.length aH)) (fun _ hk => hk.2) (.slice aJ t502.length aK)) (fun _ hk => hk.2) (.slice aN t505.length aO)) (fun _ hk => hk.2) (.slice aP t508.length aQ)) (fun _ hk => hk.2) (.int .i64 t511)) (fun _ hk => ⟨hk.1.1.1.1.2, ⟨hk.1.1.1.2, ⟨hk.1.1.2, ⟨hk.1.2, ⟨hk.1.1.1.1.1.1, ⟨hk.1.1.1.1.1.2.1, hk.1.1.1.1.1.2.2⟩⟩⟩⟩⟩⟩))⟩, ⟨by exact qR (Kd.R_mono (Kd.R_far (p := ⟨aA, 4, none⟩) (Kd.R_far (p := ⟨aA, 3, none⟩) (Kd.R_far (p := ⟨aA, 2, none⟩) (Kd.R_far (p := ⟨aA, 1, none⟩) (Kd.R_far (p := ⟨aA, 0, none⟩) (Kd.R_types cV.out aF.out (by decide)) (fun _ hk => hk.2) (.slice aG t499.length aH)) (fun _ hk => hk.2) (.slice aJ t502.length aK)) (fun _ hk => hk.2) (.slice aN t505.length aO)) (fun _ hk => hk.2) (.slice aP t508.length aQ)) (fun _ hk => hk.2) (.int .i64 t511)) (fun _ hk => ⟨hk.1.1.1.1.2, ⟨hk.1.1.1.2, ⟨hk.1.1.2, ⟨hk.1.2, ⟨hk.1.1.1.1.1.1, ⟨hk.1.1.1.1.1.2.1, hk.1.1.1.1.1.2.2⟩⟩⟩⟩⟩⟩))⟩, ⟨by (with_reducible repeat (first | refine blk_drewN ?_ _ | refine blk_drew ?_ | refine blk_alloc ?_ _)); refine blk_far ?_ bS.out _; (with_reducible repeat (first | refine blk_drewN ?_ _ | refine blk_drew ?_ | refine blk_alloc ?_ _)); refine blk_far ?_ bS.out _; (with_reducible repeat (first | refine blk_drewN ?_ _ | refine blk_drew ?_ | refine blk_alloc ?_ _)); refine blk_far ?_ bS.out _; (with_reducible repeat (first | refine blk_drewN ?_ _ | refine blk_drew ?_ | refine blk_alloc ?_ _)); refine blk_far ?_ bS.out _; (with_reducible repeat (first | refine blk_drewN ?_ _ | refine blk_drew ?_ | refine blk_alloc ?_ _)); refine blk_far ?_ bS.out _; exact qB aB.out⟩, ⟨by (with_reducible repeat (first | refine blk_drewN ?_ _ | refine blk_drew ?_ | refine blk_alloc ?_ _)); refine blk_far ?_ bT.out _; (with_reducible repeat (first | refine blk_drewN ?_ _ | refine blk_drew ?_ | refine blk_alloc ?_ _)); refine blk_far ?_ bT.out _; (with_reducible repeat (first | refine blk_drewN ?_ _ | refine blk_drew ?_ | refine blk_alloc ?_ _)); refine blk_far ?_ bT.out _; (with_reducible repeat (first | refine blk_drewN ?_ _ | refine blk_drew ?_ | refine blk_alloc ?_ _)); refine blk_far ?_ bT.out _; (with_reducible repeat (first | refine blk_drewN ?_ _ | refine blk_drew ?_ | refine blk_alloc ?_ _)); refine blk_far ?_ bT.out _; exact qB aC.out⟩, ⟨by (with_reducible repeat (first | refine blk_drewN ?_ _ | refine blk_drew ?_ | refine blk_alloc ?_ _)); refine blk_far ?_ bE.out _; (with_reducible repeat (first | refine blk_drewN ?_ _ | refine blk_drew ?_ | refine blk_alloc ?_ _)); refine blk_far ?_ bE.out _; (with_reducible repeat (first | refine blk_drewN ?_ _ | refine blk_drew ?_ | refine blk_alloc ?_ _)); refine blk_far ?_ bE.out _; (with_reducible repeat (first | refine blk_drewN ?_ _ | refine blk_drew ?_ | refine blk_alloc ?_ _)); refine blk_far ?_ bE.out _; (with_reducible repeat (first | refine blk_drewN ?_ _ | refine blk_drew ?_ | refine blk_alloc ?_ _)); refine blk_far ?_ bE.out _; exact qB aI.out⟩, ⟨by (with_reducible repeat (first | refine blk_drewN ?_ _ | refine blk_drew ?_ | refine blk_alloc ?_ _)); refine blk_put (cs := #[.slice aG t499.length aH, .slice aJ t502.length aK, .slice aN t505.length aO, .slice aP t508.length aQ, .int .i64 0]) ?_ 4 _ rfl; (with_reducible repeat (first | refine blk_drewN ?_ _ | refine blk_drew ?_ | refine blk_alloc ?_ _)); refine blk_put (cs := #[.slice aG t499.length aH, .slice aJ t502.length aK, .slice aN t505.length aO, .slice none 0 0, .int .i64 0]) ?_ 3 _ rfl; (with_reducible repeat (first | refine blk_drewN ?_ _ | refine blk_drew ?_ | refine blk_alloc ?_ _)); refine blk_put (cs := #[.slice aG t499.length aH, .slice aJ t502.length aK, .slice none 0 0, .slice none 0 0, .int .i64 0]) ?_ 2 _ rfl; (with_reducible repeat (first | refine blk_drewN ?_ _ | refine blk_drew ?_ | refine blk_alloc ?_ _)); refine blk_put (cs := #[.slice aG t499.length aH, .slice none 0 0, .slice none 0 0, .slice none 0 0, .int .i64 0]) ?_ 1 _ rfl; (with_reducible repeat (first | refine blk_drewN ?_ _ | refine blk_drew ?_ | refine blk_alloc ?_ _)); refine blk_put (cs := #[.slice none 0 0, .slice none 0 0, .slice none 0 0, .slice none 0 0, .int .i64 0]) ?_ 0 _ rfl; exact qB aF.out⟩, ⟨by repeat (first | (with_reducible first | exact HB.out | apply below_alloc | apply pw_below_drewN | apply below_drew1 | refine below_set ?_ bW.out | refine below_set ?_ bX.out | refine below_set ?_ cJ.out | refine below_set ?_ dD.out) | exact HB.out)⟩⟩
       ·rw [if_neg c33] at H
        have fI : (bG == 0) = false := beq_eq_false_iff_ne.mpr c33
        have fJ : (bG != 0) = true := bne_iff_ne.mpr c33
        have H' := Aside0.mk H
        clear H
        have jM := fF.out
        have jN := bS.out
        have jO := fG.out
        have jP := bT.out
        have jQ := aW.out
        have jR := bE.out
        have gP : w23.cell? ⟨aA, 0, none⟩ = some (.slice none 0 0) := (blk_cell aF.out 0).trans rfl
        have gQ : w23.cell? ⟨aA, 1, none⟩ = some (.slice none 0 0) := (blk_cell aF.out 1).trans rfl
        have gR : w23.cell? ⟨aA, 2, none⟩ = some (.slice none 0 0) := (blk_cell aF.out 2).trans rfl
        have gS : w23.cell? ⟨aA, 3, none⟩ = some (.slice none 0 0) := (blk_cell aF.out 3).trans rfl
        have gT : w23.cell? ⟨aA, 4, none⟩ = some (.int .i64 0) := (blk_cell aF.out 4).trans rfl
        have gU := blk_frozen aF.out 0
        have gV := blk_frozen aF.out 1
        have gW := blk_frozen aF.out 2
        have gX := blk_frozen aF.out 3
        have gY := blk_frozen aF.out 4
        have jS := cK.out
        have jT := bY.out
        have jU := aV.out
        have jV := bQ.out
        have gZ : w23.cell? ⟨aE, 0, none⟩ = some (bI) := (blk_cell aI.out 0).trans rfl
        have hA : w23.cell? ⟨aE, 1, none⟩ = some (bF) := (blk_cell aI.out 1).trans rfl
        have hB : w23.cell? ⟨aE, 2, none⟩ = some (bD) := (blk_cell aI.out 2).trans rfl
        have hC : w23.cell? ⟨aE, 3, none⟩ = some (bC) := (blk_cell aI.out 3).trans rfl
        have hD : w23.cell? ⟨aE, 4, none⟩ = some (.int .i64 aX) := (blk_cell aI.out 4).trans rfl
        have hE := blk_frozen aI.out 0
        have hF := blk_frozen aI.out 1
        have hG := blk_frozen aI.out 2
        have hH := blk_frozen aI.out 3
        have hI := blk_frozen aI.out 4
        go_wp2
        go_meet
        case rel => exact ⟨_, (decide (t511 < aX)), (by first | rfl | (simp; done) | (simp [*]; done)), H', ⟨by have := HJ2.out; have := HK2.out; first | omega | exact Nat.le_refl _⟩, ⟨by exact qR (Kd.R_mono (Kd.R_far (p := ⟨aA, 4, none⟩) (Kd.R_far (p := ⟨aA, 3, none⟩) (Kd.R_far (p := ⟨aA, 2, none⟩) (Kd.R_far (p := ⟨aA, 1, none⟩) (Kd.R_far (p := ⟨aA, 0, none⟩) (Kd.R_types aY.out aF.out (by decide)) (fun _ hk => hk.2) (.slice aG t499.length aH)) (fun _ hk => hk.2) (.slice aJ t502.length aK)) (fun _ hk => hk.2) (.slice aN t505.length aO)) (fun _ hk => hk.2) (.slice aP t508.length aQ)) (fun _ hk => hk.2) (.int .i64 t511)) (fun _ hk => ⟨hk.1.1.1.1.1.1, ⟨hk.1.1.1.1.1.2.1, ⟨hk.1.1.1.1.1.2.2, ⟨hk.1.1.1.1.2, ⟨hk.1.1.1.2, ⟨hk.1.1.2, hk.1.2⟩⟩⟩⟩⟩⟩))⟩, ⟨by exact qR (Kd.R_mono (Kd.R_far (p := ⟨aA, 4, none⟩) (Kd.R_far (p := ⟨aA, 3, none⟩) (Kd.R_far (p := ⟨aA, 2, none⟩) (Kd.R_far (p := ⟨aA, 1, none⟩) (Kd.R_far (p := ⟨aA, 0, none⟩) (Kd.R_types aZ.out aF.out (by decide)) (fun _ hk => hk.2) (.slice aG t499.length aH)) (fun _ hk => hk.2) (.slice aJ t502.length aK)) (fun _ hk => hk.2) (.slice aN t505.length aO)) (fun _ hk => hk.2) (.slice aP t508.length aQ)) (fun _ hk => hk.2) (.int .i64 t511)) (fun _ hk => ⟨hk.1.1.1.1.1.1, ⟨hk.1.1.1.1.1.2.1, ⟨hk.1.1.1.1.1.2.2, ⟨hk.1.1.1.1.2, ⟨hk.1.1.1.2, ⟨hk.1.1.2, hk.1.2⟩⟩⟩⟩⟩⟩))⟩, ⟨by exact qR (Kd.R_mono (Kd.R_far (p := ⟨aA, 4, none⟩) (Kd.R_far (p := ⟨aA, 3, none⟩) (Kd.R_far (p := ⟨aA, 2, none⟩) (Kd.R_far (p := ⟨aA, 1, none⟩) (Kd.R_far (p := ⟨aA, 0, none⟩) (Kd.R_types bA.out aF.out (by decide)) (fun _ hk => hk.2) (.slice aG t499.length aH)) (fun _ hk => hk.2) (.slice aJ t502.length aK)) (fun _ hk => hk.2) (.slice aN t505.length aO)) (fun _ hk => hk.2) (.slice aP t508.length aQ)) (fun _ hk => hk.2) (.int .i64 t511)) (fun _ hk => ⟨hk.1.1.1.1.1.1, ⟨hk.1.1.1.1.1.2.1, ⟨hk.1.1.1.1.1.2.2, ⟨hk.1.1.1.1.2, ⟨hk.1.1.1.2, ⟨hk.1.1.2, hk.1.2⟩⟩⟩⟩⟩⟩))⟩, ⟨by exact qR (Kd.R_mono (Kd.R_far (p := ⟨aA, 4, none⟩) (Kd.R_far (p := ⟨aA, 3, none⟩) (Kd.R_far (p := ⟨aA, 2, none⟩) (Kd.R_far (p := ⟨aA, 1, none⟩) (Kd.R_far (p := ⟨aA, 0, none⟩) (Kd.R_types bB.out aF.out (by decide)) (fun _ hk => hk.2) (.slice aG t499.length aH)) (fun _ hk => hk.2) (.slice aJ t502.length aK)) (fun _ hk => hk.2) (.slice aN t505.length aO)) (fun _ hk => hk.2) (.slice aP t508.length aQ)) (fun _ hk => hk.2) (.int .i64 t511)) (fun _ hk => ⟨hk.1.1.1.1.1.1, ⟨hk.1.1.1.1.1.2.1, ⟨hk.1.1.1.1.1.2.2, ⟨hk.1.1.1.1.2, ⟨hk.1.1.1.2, ⟨hk.1.1.2, hk.1.2⟩⟩⟩⟩⟩⟩))⟩, ⟨by exact qR (Kd.R_mono (Kd.R_far (p := ⟨aA, 4, none⟩) (Kd.R_far (p := ⟨aA, 3, none⟩) (Kd.R_far (p := ⟨aA, 2, none⟩) (Kd.R_far (p := ⟨aA, 1, none⟩) (Kd.R_far (p := ⟨aA, 0, none⟩) (Kd.R_types cS.out aF.out (by decide)) (fun _ hk => hk.2) (.slice aG t499.length aH)) (fun _ hk => hk.2) (.slice aJ t502.length aK)) (fun _ hk => hk.2) (.slice aN t505.length aO)) (fun _ hk => hk.2) (.slice aP t508.length aQ)) (fun _ hk => hk.2) (.int .i64 t511)) (fun _ hk => ⟨hk.1.1.1.1.2, ⟨hk.1.1.1.2, ⟨hk.1.1.2, ⟨hk.1.2, ⟨hk.1.1.1.1.1.1, ⟨hk.1.1.1.1.1.2.1, hk.1.1.1.1.1.2.2⟩⟩⟩⟩⟩⟩))⟩, ⟨by exact qR (Kd.R_mono (Kd.R_far (p := ⟨aA, 4, none⟩) (Kd.R_far (p := ⟨aA, 3, none⟩) (Kd.R_far (p := ⟨aA, 2, none⟩) (Kd.R_far (p := ⟨aA, 1, none⟩) (Kd.R_far (p := ⟨aA, 0, none⟩) (Kd.R_types cT.out aF.out (by decide)) (fun _ hk => hk.2) (.slice aG t499.length aH)) (fun _ hk => hk.2) (.slice aJ t502.length aK)) (fun _ hk => hk.2) (.slice aN t505.length aO)) (fun _ hk => hk.2) (.slice aP t508.length aQ)) (fun _ hk => hk.2) (.int .i64 t511)) (fun _ hk => ⟨hk.1.1.1.1.2, ⟨hk.1.1.1.2, ⟨hk.1.1.2, ⟨hk.1.2, ⟨hk.1.1.1.1.1.1, ⟨hk.1.1.1.1.1.2.1, hk.1.1.1.1.1.2.2⟩⟩⟩⟩⟩⟩))⟩, ⟨by exact qR (Kd.R_mono (Kd.R_far (p := ⟨aA, 4, none⟩) (Kd.R_far (p := ⟨aA, 3, none⟩) (Kd.R_far (p := ⟨aA, 2, none⟩) (Kd.R_far (p := ⟨aA, 1, none⟩) (Kd.R_far (p := ⟨aA, 0, none⟩) (Kd.R_types cU.out aF.out (by decide)) (fun _ hk => hk.2) (.slice aG t499.length aH)) (fun _ hk => hk.2) (.slice aJ t502.length aK)) (fun _ hk => hk.2) (.slice aN t505.length aO)) (fun _ hk => hk.2) (.slice aP t508.length aQ)) (fun _ hk => hk.2) (.int .i64 t511)) (fun _ hk => ⟨hk.1.1.1.1.2, ⟨hk.1.1.1.2, ⟨hk.1.1.2, ⟨hk.1.2, ⟨hk.1.1.1.1.1.1, ⟨hk.1.1.1.1.1.2.1, hk.1.1.1.1.1.2.2⟩⟩⟩⟩⟩⟩))⟩, ⟨by exact qR (Kd.R_mono (Kd.R_far (p := ⟨aA, 4, none⟩) (Kd.R_far (p := ⟨aA, 3, none⟩) (Kd.R_far (p := ⟨aA, 2, none⟩) (Kd.R_far (p := ⟨aA, 1, none⟩) (Kd.R_far (p := ⟨aA, 0, none⟩) (Kd.R_types cV.out aF.out (by decide)) (fun _ hk => hk.2) (.slice aG t499.length aH)) (fun _ hk => hk.2) (.slice aJ t502.length aK)) (fun _ hk => hk.2) (.slice aN t505.length aO)) (fun _ hk => hk.2) (.slice aP t508.length aQ)) (fun _ hk => hk.2) (.int .i64 t511)) (fun _ hk => ⟨hk.1.1.1.1.2, ⟨hk.1.1.1.2, ⟨hk.1.1.2, ⟨hk.1.2, ⟨hk.1.1.1.1.1.1, ⟨hk.1.1.1.1.1.2.1, hk.1.1.1.1.1.2.2⟩⟩⟩⟩⟩⟩))⟩, ⟨by (with_reducible repeat (first | refine blk_drewN ?_ _ | refine blk_drew ?_ | refine blk_alloc ?_ _)); refine blk_far ?_ bS.out _; (with_reducible repeat (first | refine blk_drewN ?_ _ | refine blk_drew ?_ | refine blk_alloc ?_ _)); refine blk_far ?_ bS.out _; (with_reducible repeat (first | refine blk_drewN ?_ _ | refine blk_drew ?_ | refine blk_alloc ?_ _)); refine blk_far ?_ bS.out _; (with_reducible repeat (first | refine blk_drewN ?_ _ | refine blk_drew ?_ | refine blk_alloc ?_ _)); refine blk_far ?_ bS.out _; (with_reducible repeat (first | refine blk_drewN ?_ _ | refine blk_drew ?_ | refine blk_alloc ?_ _)); refine blk_far ?_ bS.out _; exact qB aB.out⟩, ⟨by (with_reducible repeat (first | refine blk_drewN ?_ _ | refine blk_drew ?_ | refine blk_alloc ?_ _)); refine blk_far ?_ bT.out _; (with_reducible repeat (first | refine blk_drewN ?_ _ | refine blk_drew ?_ | refine blk_alloc ?_ _)); refine blk_far ?_ bT.out _; (with_reducible repeat (first | refine blk_drewN ?_ _ | refine blk_drew ?_ | refine blk_alloc ?_ _)); refine blk_far ?_ bT.out _; (with_reducible repeat (first | refine blk_drewN ?_ _ | refine blk_drew ?_ | refine blk_alloc ?_ _)); refine blk_far ?_ bT.out _; (with_reducible repeat (first | refine blk_drewN ?_ _ | refine blk_drew ?_ | refine blk_alloc ?_ _)); refine blk_far ?_ bT.out _; exact qB aC.out⟩, ⟨by (with_reducible repeat (first | refine blk_drewN ?_ _ | refine blk_drew ?_ | refine blk_alloc ?_ _)); refine blk_far ?_ bE.out _; (with_reducible repeat (first | refine blk_drewN ?_ _ | refine blk_drew ?_ | refine blk_alloc ?_ _)); refine blk_far ?_ bE.out _; (with_reducible repeat (first | refine blk_drewN ?_ _ | refine blk_drew ?_ | refine blk_alloc ?_ _)); refine blk_far ?_ bE.out _; (with_reducible repeat (first | refine blk_drewN ?_ _ | refine blk_drew ?_ | refine blk_alloc ?_ _)); refine blk_far ?_ bE.out _; (with_reducible repeat (first | refine blk_drewN ?_ _ | refine blk_drew ?_ | refine blk_alloc ?_ _)); refine blk_far ?_ bE.out _; exact qB aI.out⟩, ⟨by (with_reducible repeat (first | refine blk_drewN ?_ _ | refine blk_drew ?_ | refine blk_alloc ?_ _)); refine blk_put (cs := #[.slice aG t499.length aH, .slice aJ t502.length aK, .slice aN t505.length aO, .slice aP t508.length aQ, .int .i64 0]) ?_ 4 _ rfl; (with_reducible repeat (first | refine blk_drewN ?_ _ | refine blk_drew ?_ | refine blk_alloc ?_ _)); refine blk_put (cs := #[.slice aG t499.length aH, .slice aJ t502.length aK, .slice aN t505.length aO, .slice none 0 0, .int .i64 0]) ?_ 3 _ rfl; (with_reducible repeat (first | refine blk_drewN ?_ _ | refine blk_drew ?_ | refine blk_alloc ?_ _)); refine blk_put (cs := #[.slice aG t499.length aH, .slice aJ t502.length aK, .slice none 0 0, .slice none 0 0, .int .i64 0]) ?_ 2 _ rfl; (with_reducible repeat (first | refine blk_drewN ?_ _ | refine blk_drew ?_ | refine blk_alloc ?_ _)); refine blk_put (cs := #[.slice aG t499.length aH, .slice none 0 0, .slice none 0 0, .slice none 0 0, .int .i64 0]) ?_ 1 _ rfl; (with_reducible repeat (first | refine blk_drewN ?_ _ | refine blk_drew ?_ | refine blk_alloc ?_ _)); refine blk_put (cs := #[.slice none 0 0, .slice none 0 0, .slice none 0 0, .slice none 0 0, .int .i64 0]) ?_ 0 _ rfl; exact qB aF.out⟩, ⟨by repeat (first | (with_reducible first | exact HB.out | apply below_alloc | apply pw_below_drewN | apply below_drew1 | refine below_set ?_ bW.out | refine below_set ?_ bX.out | refine below_set ?_ cJ.out | refine below_set ?_ dD.out) | exact HB.out)⟩⟩
      case rest =>
       clear dT
       try clear c1
       try clear c2
       try clear p2
       try clear c3
       try clear c6
       try clear cI
       try clear c7
       try clear c8
       try clear c11
       try clear dR
       try clear dS
       try clear c12
       try clear c14
       try clear c16
       try clear eS
       try clear c19
       try clear c20
       try clear c25
       try clear c26
       try clear c27
       try clear c32
       try clear dA
       try clear fH
       try clear c33
       try clear fI
       try clear fJ
       try clear c34
       try clear c35
       try clear c36
       try clear c38
       try clear c39
       try clear eI
       try clear eJ
       try clear eK
       try clear eL
       try clear eM
       try clear fR
       try clear fS
       try clear fT
       try clear fU
       try clear fV
       try clear gC
       try clear gD
       try clear gE
       try clear gF
       try clear gG
       try clear gP
       try clear gQ
       try clear gR
       try clear gS
       try clear gT
       try clear gZ
       try clear hA
       try clear hB
       try clear hC
       try clear hD
       try clear dY
       try clear dZ
       try clear eA
       try clear eB
       try clear eC
       try clear eN
       try clear eO
       try clear eP
       try clear eQ
       try clear eR
       try clear fW
       try clear fX
       try clear fY
       try clear fZ
       try clear gA
       try clear gH
       try clear gI
       try clear gJ
       try clear gK
       try clear gL
       try clear gU
       try clear gV
       try clear gW
       try clear gX
       try clear gY
       try clear hE
       try clear hF
       try clear hG
       try clear hH
       try clear hI
       try clear eD
       try clear eE
       try clear eF
       try clear eG
       try clear eH
       try clear p2
       obtain ⟨kq, dK, rfl, HA, dL, aY, aZ, bA, bB, dE, dF, dG, dH, aB, aC, aI, aF, HB⟩ := hcut
       cases kq with
       | zero => exact absurd HA.out (by simp [standbyref56_Best.j2])
       | succ dM =>
        have H := HA.out
        clear HA
        simp only [standbyref56_Best.j2] at H
        by_cases c41 : dK = true
        case neg =>
         replace c41 := Bool.eq_false_iff.mpr c41
         subst c41
         have H1 : (standbyref56_Best.l0 dM a1 bG (wrap64 (aM + 1)) aR aS aM aT aU bH bJ bO bR aX) = some (r1, r2, r3, r4, r5, r6, r7) := by rw [if_neg (show ¬ (false = true) by decide)] at H; exact H
         clear H
         have H := H1
         clear H1
         have H' := Aside0.mk H
         clear H
         go_wp2
         go_roundg dM
         case measure => have := HJ2.out; have := HK2.out; have := dL.out; omega
         case rel => exact ⟨(bG), (wrap64 (aM + 1)), (aM), (bH), (bJ), (bO), (bR), (aX), (bI), (bF), (bD), (bC), (by first | rfl | (simp; done) | (simp [*]; done)), (by first | rfl | (simp; done) | (simp [*]; done)), H', ⟨by have := HJ2.out; have := HK2.out; have := dL.out; omega⟩, ⟨by exact qR (Kd.R_mono aY.out (fun _ hk => ⟨hk.1, ⟨hk.2.1, hk.2.2.1⟩⟩))⟩, ⟨by exact qR (Kd.R_mono aZ.out (fun _ hk => ⟨hk.1, ⟨hk.2.1, hk.2.2.1⟩⟩))⟩, ⟨by exact qR (Kd.R_mono bA.out (fun _ hk => ⟨hk.1, ⟨hk.2.1, hk.2.2.1⟩⟩))⟩, ⟨by exact qR (Kd.R_mono bB.out (fun _ hk => ⟨hk.1, ⟨hk.2.1, hk.2.2.1⟩⟩))⟩, ⟨by exact qB aB.out⟩, ⟨by exact qB aC.out⟩, ⟨by exact qB aI.out⟩, ⟨by repeat (first | (with_reducible first | exact HB.out | apply below_alloc | apply pw_below_drewN | apply below_drew1 | refine below_set ?_ bW.out | refine below_set ?_ bX.out | refine below_set ?_ cJ.out | refine below_set ?_ dD.out) | exact HB.out)⟩⟩
        subst c41
        have H1 : (standbyref56_Best.l0 dM a1 aM (wrap64 (aM + 1)) aR aS aM aT aU t499 t502 t505 t508 t511) = some (r1, r2, r3, r4, r5, r6, r7) := by rw [if_pos rfl] at H; exact H
        clear H
        have H := H1
        clear H1
        have H' := Aside0.mk H
        clear H
        try go_wp2
        have n0_ := Aside0.mk (Kd.R_drew aY.out)
        have n1_ := Aside0.mk (Kd.R_drew aZ.out)
        have n2_ := Aside0.mk (Kd.R_drew bA.out)
        have n3_ := Aside0.mk (Kd.R_drew bB.out)
        have n4_ := Aside0.mk (Kd.R_drew dE.out)
        have n5_ := Aside0.mk (Kd.R_drew dF.out)
        have n6_ := Aside0.mk (Kd.R_drew dG.out)
        have n7_ := Aside0.mk (Kd.R_drew dH.out)
        have n8_ := Aside0.mk (blk_drew aB.out)
        have n9_ := Aside0.mk (blk_drew aC.out)
        have cN := Aside0.mk (blk_drew aI.out)
        have cO := Aside0.mk (blk_drew aF.out)
        have dC := Aside0.mk (below_drew1 HB.out)
        clear aY aZ bA bB dE dF dG dH aB aC aI aF HB
        have aY := n0_
        have aZ := n1_
        have bA := n2_
        have bB := n3_
        have dE := n4_
        have dF := n5_
        have dG := n6_
        have dH := n7_
        have aB := n8_
        have aC := n9_
        have aI := cN
        have aF := cO
        have HB := dC
        clear n0_ n1_ n2_ n3_ n4_ n5_ n6_ n7_ n8_ n9_ cN cO dC
        refine start_ (n := 4) (S := fun w' => w'.cell? ⟨aA, 0, none⟩ = some (.slice aG t499.length aH) ∧ w'.cell? ⟨aA, 1, none⟩ = some (.slice aJ t502.length aK) ∧ w'.cell? ⟨aA, 2, none⟩ = some (.slice aN t505.length aO) ∧ w'.cell? ⟨aA, 3, none⟩ = some (.slice aP t508.length aQ) ∧ w'.cell? ⟨aA, 4, none⟩ = some (.int .i64 t511)) (ds := []) #[false, false, false, false] (by kernel_rfl) rfl rfl ⟨(blk_cell aF.out 0).trans rfl, (blk_cell aF.out 1).trans rfl, (blk_cell aF.out 2).trans rfl, (blk_cell aF.out 3).trans rfl, (blk_cell aF.out 4).trans rfl⟩ (fun hHeld => ?_)
        generalize wc.drew = w42 at aY aZ bA bB dE dF dG dH aB aC aI aF HB hHeld ⊢
        refine pure_ (i := 0) (N := some 52) (v := ?_) (a' := ?_) #[true, false, false, false] rfl rfl (by kernel_rfl) (fun _ _ _ h => h) (Or.inl ⟨by rfl, ?_⟩) ?_ ?_; rotate_left
        ·intro w'
         go_simp
         with_reducible rfl
        rotate_left
        ·simp only [Act.put, List.setIfInBounds_toArray, List.set_cons_zero, List.set_cons_succ, i64_w, i32_w]
         rfl
        refine pure_ (i := 2) (N := some 8) (v := ?_) (a' := ?_) #[true, false, true, false] rfl rfl (by kernel_rfl) (fun _ _ _ h => h) (Or.inl ⟨by rfl, ?_⟩) ?_ ?_; rotate_left
        ·intro w'
         go_simp
         with_reducible rfl
        rotate_left
        ·simp only [Act.put, List.setIfInBounds_toArray, List.set_cons_zero, List.set_cons_succ, i64_w, i32_w]
         rfl
        refine take_ (i := 1) (N := some 53) (v := ?_) (a' := ?_) #[true, true, true, false] rfl rfl (by kernel_rfl) (fun _ _ _ h => h) (Or.inl ⟨by rfl, ?_⟩) hHeld ?_ ?_; rotate_left
        ·rintro w' ⟨s0, s1, s2, s3, s4⟩
         go_simp
         with_reducible rfl
        rotate_left
        ·simp only [Act.put, List.setIfInBounds_toArray, List.set_cons_zero, List.set_cons_succ, i64_w, i32_w]
         rfl
        refine one_ (i := 3) (N := none) #[true, true, true, true] rfl rfl (by kernel_rfl) (by decide) (fun K hK => ?_)
        have hs43 : w42.cell? ⟨aE, 0, none⟩ = some (bI) := (blk_cell aI.out 0).trans rfl
        have hfs43 := blk_frozen aI.out 0
        have hns43_0 := bY.out
        have hns43_1 := bQ.out
        have hns43_3 := aW.out
        have hms43_0 := cK.out
        have hms43_1 := aV.out
        have hms43_3 := bE.out
        have hs44 : w42.cell? ⟨aE, 1, none⟩ = some (bF) := (blk_cell aI.out 1).trans rfl
        have hfs44 := blk_frozen aI.out 1
        have hns44_0 := bY.out
        have hns44_1 := bQ.out
        have hns44_3 := aW.out
        have hms44_0 := cK.out
        have hms44_1 := aV.out
        have hms44_3 := bE.out
        have hs45 : w42.cell? ⟨aE, 2, none⟩ = some (bD) := (blk_cell aI.out 2).trans rfl
        have hfs45 := blk_frozen aI.out 2
        have hns45_0 := bY.out
        have hns45_1 := bQ.out
        have hns45_3 := aW.out
        have hms45_0 := cK.out
        have hms45_1 := aV.out
        have hms45_3 := bE.out
        have hs46 : w42.cell? ⟨aE, 3, none⟩ = some (bC) := (blk_cell aI.out 3).trans rfl
        have hfs46 := blk_frozen aI.out 3
        have hns46_0 := bY.out
        have hns46_1 := bQ.out
        have hns46_3 := aW.out
        have hms46_0 := cK.out
        have hms46_1 := aV.out
        have hms46_3 := bE.out
        have hs47 : w42.cell? ⟨aE, 4, none⟩ = some (.int .i64 aX) := (blk_cell aI.out 4).trans rfl
        have hfs47 := blk_frozen aI.out 4
        have hns47_0 := bY.out
        have hns47_1 := bQ.out
        have hns47_3 := aW.out
        have hms47_0 := cK.out
        have hms47_1 := aV.out
        have hms47_3 := bE.out
        refine skip_ (w1 := ?_) (by rfl) rfl ?_ ?_; rotate_left
        ·go_simp
         rfl
        refine hK.out _ _ ⟨((cell_far (p := ⟨aE, _, none⟩) aW.out _).trans (((cell_far (p := ⟨aE, _, none⟩) aW.out _).trans (((cell_far (p := ⟨aE, _, none⟩) aW.out _).trans (((cell_far (p := ⟨aE, _, none⟩) aW.out _).trans (((cell_far (p := ⟨aE, _, none⟩) aW.out _).trans (hHeld.1)))))))))), ((cell_far (p := ⟨aE, _, none⟩) aW.out _).trans (((cell_far (p := ⟨aE, _, none⟩) aW.out _).trans (((cell_far (p := ⟨aE, _, none⟩) aW.out _).trans (((cell_far (p := ⟨aE, _, none⟩) aW.out _).trans (((cell_far (p := ⟨aE, _, none⟩) aW.out _).trans (hHeld.2.1)))))))))), ((cell_far (p := ⟨aE, _, none⟩) aW.out _).trans (((cell_far (p := ⟨aE, _, none⟩) aW.out _).trans (((cell_far (p := ⟨aE, _, none⟩) aW.out _).trans (((cell_far (p := ⟨aE, _, none⟩) aW.out _).trans (((cell_far (p := ⟨aE, _, none⟩) aW.out _).trans (hHeld.2.2.1)))))))))), ((cell_far (p := ⟨aE, _, none⟩) aW.out _).trans (((cell_far (p := ⟨aE, _, none⟩) aW.out _).trans (((cell_far (p := ⟨aE, _, none⟩) aW.out _).trans (((cell_far (p := ⟨aE, _, none⟩) aW.out _).trans (((cell_far (p := ⟨aE, _, none⟩) aW.out _).trans (hHeld.2.2.2.1)))))))))), ((cell_far (p := ⟨aE, _, none⟩) aW.out _).trans (((cell_far (p := ⟨aE, _, none⟩) aW.out _).trans (((cell_far (p := ⟨aE, _, none⟩) aW.out _).trans (((cell_far (p := ⟨aE, _, none⟩) aW.out _).trans (((cell_far (p := ⟨aE, _, none⟩) aW.out _).trans (hHeld.2.2.2.2))))))))))⟩ (fun hHeld => ?_); clear hK K
        refine done_ (by kernel_rfl) ?_
        try go_wp2
        go_roundg dM
        case measure => have := HJ2.out; have := HK2.out; have := dL.out; omega
        case rel => exact ⟨(aM), (wrap64 (aM + 1)), (aM), (t499), (t502), (t505), (t508), (t511), (.slice aG t499.length aH), (.slice aJ t502.length aK), (.slice aN t505.length aO), (.slice aP t508.length aQ), (by first | rfl | (simp; done) | (simp [*]; done)), (by first | rfl | (simp; done) | (simp [*]; done)), H', ⟨by have := HJ2.out; have := HK2.out; have := dL.out; omega⟩, ⟨by exact qR (Kd.R_mono (Kd.R_far (p := ⟨aE, 4, none⟩) (Kd.R_far (p := ⟨aE, 3, none⟩) (Kd.R_far (p := ⟨aE, 2, none⟩) (Kd.R_far (p := ⟨aE, 1, none⟩) (Kd.R_far (p := ⟨aE, 0, none⟩) (Kd.R_types dE.out aI.out (by decide)) (fun _ hk => hk.2) (.slice aG t499.length aH)) (fun _ hk => hk.2) (.slice aJ t502.length aK)) (fun _ hk => hk.2) (.slice aN t505.length aO)) (fun _ hk => hk.2) (.slice aP t508.length aQ)) (fun _ hk => hk.2) (.int .i64 t511)) (fun _ hk => ⟨hk.1.2.2.2.2.1, ⟨hk.1.2.2.2.2.2.1, hk.1.2.2.2.2.2.2⟩⟩))⟩, ⟨by exact qR (Kd.R_mono (Kd.R_far (p := ⟨aE, 4, none⟩) (Kd.R_far (p := ⟨aE, 3, none⟩) (Kd.R_far (p := ⟨aE, 2, none⟩) (Kd.R_far (p := ⟨aE, 1, none⟩) (Kd.R_far (p := ⟨aE, 0, none⟩) (Kd.R_types dF.out aI.out (by decide)) (fun _ hk => hk.2) (.slice aG t499.length aH)) (fun _ hk => hk.2) (.slice aJ t502.length aK)) (fun _ hk => hk.2) (.slice aN t505.length aO)) (fun _ hk => hk.2) (.slice aP t508.length aQ)) (fun _ hk => hk.2) (.int .i64 t511)) (fun _ hk => ⟨hk.1.2.2.2.2.1, ⟨hk.1.2.2.2.2.2.1, hk.1.2.2.2.2.2.2⟩⟩))⟩, ⟨by exact qR (Kd.R_mono (Kd.R_far (p := ⟨aE, 4, none⟩) (Kd.R_far (p := ⟨aE, 3, none⟩) (Kd.R_far (p := ⟨aE, 2, none⟩) (Kd.R_far (p := ⟨aE, 1, none⟩) (Kd.R_far (p := ⟨aE, 0, none⟩) (Kd.R_types dG.out aI.out (by decide)) (fun _ hk => hk.2) (.slice aG t499.length aH)) (fun _ hk => hk.2) (.slice aJ t502.length aK)) (fun _ hk => hk.2) (.slice aN t505.length aO)) (fun _ hk => hk.2) (.slice aP t508.length aQ)) (fun _ hk => hk.2) (.int .i64 t511)) (fun _ hk => ⟨hk.1.2.2.2.2.1, ⟨hk.1.2.2.2.2.2.1, hk.1.2.2.2.2.2.2⟩⟩))⟩, ⟨by exact qR (Kd.R_mono (Kd.R_far (p := ⟨aE, 4, none⟩) (Kd.R_far (p := ⟨aE, 3, none⟩) (Kd.R_far (p := ⟨aE, 2, none⟩) (Kd.R_far (p := ⟨aE, 1, none⟩) (Kd.R_far (p := ⟨aE, 0, none⟩) (Kd.R_types dH.out aI.out (by decide)) (fun _ hk => hk.2) (.slice aG t499.length aH)) (fun _ hk => hk.2) (.slice aJ t502.length aK)) (fun _ hk => hk.2) (.slice aN t505.length aO)) (fun _ hk => hk.2) (.slice aP t508.length aQ)) (fun _ hk => hk.2) (.int .i64 t511)) (fun _ hk => ⟨hk.1.2.2.2.2.1, ⟨hk.1.2.2.2.2.2.1, hk.1.2.2.2.2.2.2⟩⟩))⟩, ⟨by (with_reducible repeat (first | refine blk_drewN ?_ _ | refine blk_drew ?_ | refine blk_alloc ?_ _)); refine blk_far ?_ bY.out _; (with_reducible repeat (first | refine blk_drewN ?_ _ | refine blk_drew ?_ | refine blk_alloc ?_ _)); refine blk_far ?_ bY.out _; (with_reducible repeat (first | refine blk_drewN ?_ _ | refine blk_drew ?_ | refine blk_alloc ?_ _)); refine blk_far ?_ bY.out _; (with_reducible repeat (first | refine blk_drewN ?_ _ | refine blk_drew ?_ | refine blk_alloc ?_ _)); refine blk_far ?_ bY.out _; (with_reducible repeat (first | refine blk_drewN ?_ _ | refine blk_drew ?_ | refine blk_alloc ?_ _)); refine blk_far ?_ bY.out _; exact qB aB.out⟩, ⟨by (with_reducible repeat (first | refine blk_drewN ?_ _ | refine blk_drew ?_ | refine blk_alloc ?_ _)); refine blk_far ?_ bQ.out _; (with_reducible repeat (first | refine blk_drewN ?_ _ | refine blk_drew ?_ | refine blk_alloc ?_ _)); refine blk_far ?_ bQ.out _; (with_reducible repeat (first | refine blk_drewN ?_ _ | refine blk_drew ?_ | refine blk_alloc ?_ _)); refine blk_far ?_ bQ.out _; (with_reducible repeat (first | refine blk_drewN ?_ _ | refine blk_drew ?_ | refine blk_alloc ?_ _)); refine blk_far ?_ bQ.out _; (with_reducible repeat (first | refine blk_drewN ?_ _ | refine blk_drew ?_ | refine blk_alloc ?_ _)); refine blk_far ?_ bQ.out _; exact qB aC.out⟩, ⟨by (with_reducible repeat (first | refine blk_drewN ?_ _ | refine blk_drew ?_ | refine blk_alloc ?_ _)); refine blk_put (cs := #[.slice aG t499.length aH, .slice aJ t502.length aK, .slice aN t505.length aO, .slice aP t508.length aQ, .int .i64 aX]) ?_ 4 _ rfl; (with_reducible repeat (first | refine blk_drewN ?_ _ | refine blk_drew ?_ | refine blk_alloc ?_ _)); refine blk_put (cs := #[.slice aG t499.length aH, .slice aJ t502.length aK, .slice aN t505.length aO, bC, .int .i64 aX]) ?_ 3 _ rfl; (with_reducible repeat (first | refine blk_drewN ?_ _ | refine blk_drew ?_ | refine blk_alloc ?_ _)); refine blk_put (cs := #[.slice aG t499.length aH, .slice aJ t502.length aK, bD, bC, .int .i64 aX]) ?_ 2 _ rfl; (with_reducible repeat (first | refine blk_drewN ?_ _ | refine blk_drew ?_ | refine blk_alloc ?_ _)); refine blk_put (cs := #[.slice aG t499.length aH, bF, bD, bC, .int .i64 aX]) ?_ 1 _ rfl; (with_reducible repeat (first | refine blk_drewN ?_ _ | refine blk_drew ?_ | refine blk_alloc ?_ _)); refine blk_put (cs := #[bI, bF, bD, bC, .int .i64 aX]) ?_ 0 _ rfl; exact qB aI.out⟩, ⟨by repeat (first | (with_reducible first | exact HB.out | apply below_alloc | apply pw_below_drewN | apply below_drew1 | refine below_set ?_ bW.out | refine below_set ?_ bX.out | refine below_set ?_ cJ.out | refine below_set ?_ dD.out) | exact HB.out)⟩⟩
end Go.Proofs.Ytcflacjidabppaa.Pr

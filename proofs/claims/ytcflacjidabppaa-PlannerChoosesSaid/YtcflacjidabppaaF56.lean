-- Written by pp.py, a program of this session, over the translation of the given program; a machine's text: Lean checks it.
import Derived.Test.YtcflacjidabppaaGShort
namespace Go.Proofs.Ytcflacjidabppaa.Pr
open Go.RowKit Go.Proofs.YtcflacjidabppaaW.PrintWords Go.Proofs.YtcflacjidabppaaW.PrintLast Go.Proofs.YtcflacjidabppaaW.PrintMore
attribute [local go_sem] max2_int min2_int max_two min_two max_three min_three max_four min_four   -- for this text's walks alone
set_option linter.unusedVariables false
set_option linter.unusedSimpArgs false

/-! ### planner_bound: function 56 -/
def planner_bound.l0 : Nat → Int → Int → List Int → Int → Int → List Int → List Int → List Int → List Int → Int → Option (Int)
 | 0, _, _, _, _, _, _, _, _, _, _ => none
 | k + 1, x3, x4, x8, x9, x10, aJ, bB, bC, aU, bD => if x10 < x9 then (if 0 ≤ x10 then (if x10 < (x8.length : Int) then (if x10 = 0 then (if x10 < (aJ.length : Int) then (planner_bound.l0 k (mx (mx x3 (wrap64 ((wrap64 ((rd x8 x10) - 1)) - x4))) (wrap64 ((rd x8 x10) - (rd aJ x10)))) (rd aJ x10) x8 x9 (wrap64 (x10 + 1)) aJ bB bC aU bD) else (none)) else (if 0 ≤ (wrap64 (x10 - 1)) then (if (wrap64 (x10 - 1)) < (aU.length : Int) then (if (rd x8 x10) > (rd aU (wrap64 (x10 - 1))) then (if x10 < (aJ.length : Int) then (planner_bound.l0 k (mx (mx x3 (wrap64 ((wrap64 ((rd x8 x10) - 1)) - x4))) (wrap64 ((rd x8 x10) - (rd aJ x10)))) (rd aJ x10) x8 x9 (wrap64 (x10 + 1)) aJ bB bC aU bD) else (none)) else (if x10 < (aJ.length : Int) then (planner_bound.l0 k (mx x3 (wrap64 ((rd x8 x10) - (rd aJ x10)))) (rd aJ x10) x8 x9 (wrap64 (x10 + 1)) aJ bB bC aU bD) else (none))) else (none)) else (none))) else (none)) else (none)) else (some x3)
def planner_bound.f (k : Nat) (aC : List Int) (aF : List Int) (aG : List Int) (aB : List Int) (aH : Int) : Option (Int) := planner_bound.l0 k 0 0 aB (aB.length : Int) 0 aC aF aG aB aH
theorem planner_bound.mono_l : ∀ k, (∀ y0 y1 y2 y3 y4 y5 y6 y7 y8 y9, LeO (planner_bound.l0 k y0 y1 y2 y3 y4 y5 y6 y7 y8 y9) (planner_bound.l0 (k + 1) y0 y1 y2 y3 y4 y5 y6 y7 y8 y9))
 | 0 => fun _ _ _ _ _ _ _ _ _ _ r h => by simp [planner_bound.l0] at h
 | k + 1 => by
  have ih0 := planner_bound.mono_l k
  ·intro y0 y1 y2 y3 y4 y5 y6 y7 y8 y9
   unfold planner_bound.l0
   repeat' first
   | (with_reducible exact ih0 _ _ _ _ _ _ _ _ _ _)
   | (with_reducible exact LeO.refl _)
   | (with_reducible exact LeO.none _)
   | (with_reducible refine LeO.ite ?_ ?_)
   | (with_reducible refine LeO.bind ?_ (fun _ => ?_))
   | exact ih0 _ _ _ _ _ _ _ _ _ _
   | exact LeO.none _
   | refine LeO.ite ?_ ?_
   | refine LeO.bind ?_ (fun _ => ?_)
theorem planner_bound.mono : ∀ a0 a1 a2 a3 a4 k, LeO (planner_bound.f k a0 a1 a2 a3 a4) (planner_bound.f (k + 1) a0 a1 a2 a3 a4) := by
 intro a0 a1 a2 a3 a4 k
 have ih0 := planner_bound.mono_l k
 unfold planner_bound.f
 repeat' first
   | (with_reducible exact ih0 _ _ _ _ _ _ _ _ _ _)
   | (with_reducible exact LeO.refl _)
   | (with_reducible exact LeO.none _)
   | (with_reducible refine LeO.ite ?_ ?_)
   | (with_reducible refine LeO.bind ?_ (fun _ => ?_))
   | exact ih0 _ _ _ _ _ _ _ _ _ _
   | exact LeO.none _
   | refine LeO.ite ?_ ?_
   | refine LeO.bind ?_ (fun _ => ?_)
set_option maxHeartbeats 8000000 in
set_option maxRecDepth 100000 in
theorem planner_bound.calls (k : Nat) (aM : Option Addr) (aN : Nat) (aC : List Int) (aO : Option Addr) (aP : Nat) (aF : List Int) (aQ : Option Addr) (aR : Nat) (aG : List Int) (aV : Option Addr) (aS : Nat) (aB : List Int) (aH : Int) (r : Int) (w : World) (bL : Kd.C (Kd.int .i64) w aM aC.length aC) (bM : aC.length ≤ aN) (bN : Kd.C (Kd.int .i64) w aO aF.length aF) (bO : aF.length ≤ aP) (bP : Kd.C (Kd.int .i64) w aQ aG.length aG) (bQ : aG.length ≤ aR) (bR : Kd.C (Kd.int .i64) w aV aB.length aB) (bS : aB.length ≤ aS) (h : planner_bound.f k aC aF aG aB aH = some r) :
  Calls Try.prog 56 #[.agg #[.slice aM aC.length aN, .slice aO aF.length aP, .slice aQ aG.length aR, .slice aV aB.length aS, .int .i64 aH]] w fun e w' => e = .returned (.int .i64 r) ∧ Below w.heap.size w w' := by
 have hu28 := Try.underlying28
 have bE := Aside0.mk bL
 have cH := Aside0.mk bM
 clear bL bM
 have cI := Aside0.mk bN
 have cJ := Aside0.mk bO
 clear bN bO
 have cK := Aside0.mk bP
 have cL := Aside0.mk bQ
 clear bP bQ
 have aW := Aside0.mk bR
 have cM := Aside0.mk bS
 clear bR bS
 have HB := Aside0.mk (Below.refl w.heap.size w)
 have H : (planner_bound.l0 k 0 0 aB (aB.length : Int) 0 aC aF aG aB aH) = some r := h
 clear h
 have H' := Aside0.mk H
 clear H
 go_enter Try.func56, Try.ntmps56
 go_wp2_with (first | ((with_reducible refine gate_dst (N := 1) rfl ?_); refine box_event ?hg (N := 1) ?hd (cs := #[.slice aM aC.length aN, .slice aO aF.length aP, .slice aQ aG.length aR, .slice aV aB.length aS, .int .i64 aH]) (t := 28) ?hr ?_; (case hd => rfl); (case hg => rfl); (case hr => first | (go_simp; done) | (go_simp; rfl)); intro aE hg w2 hbox hb; have n0_ := Aside0.mk (below_step (qW HB.out) hb); have n1_ := Aside0.mk (hbox); have n2_ := Aside0.mk ((by rw [hg]; exact (below_size (qW HB.out)) : w.heap.size ≤ aE)); have n3_ := Aside0.mk ((by rw [hg]; exact (below_size (qW HB.out)) : w.heap.size ≤ aE)); clear HB; have HB := n0_; have aD := n1_; have cN := n2_; have aX := n3_; clear n0_ n1_ n2_ n3_ hb hbox hg; have bT : w2.cell? ⟨aE, 0, none⟩ = some (.slice aM aC.length aN) := (blk_cell aD.out 0).trans rfl; have bU : w2.cell? ⟨aE, 1, none⟩ = some (.slice aO aF.length aP) := (blk_cell aD.out 1).trans rfl; have bV : w2.cell? ⟨aE, 2, none⟩ = some (.slice aQ aG.length aR) := (blk_cell aD.out 2).trans rfl; have bW : w2.cell? ⟨aE, 3, none⟩ = some (.slice aV aB.length aS) := (blk_cell aD.out 3).trans rfl; have bX : w2.cell? ⟨aE, 4, none⟩ = some (.int .i64 aH) := (blk_cell aD.out 4).trans rfl; have bY := blk_frozen aD.out 0; have bZ := blk_frozen aD.out 1; have cA := blk_frozen aD.out 2; have cB := blk_frozen aD.out 3; have cC := blk_frozen aD.out 4))
 go_loopg [3, 4, 10] k (fun kq v3 v4 v10 w' => ∃ (aI : Int) (aL : Int) (aA : Int), v3 = .int .i64 aI ∧ v4 = .int .i64 aL ∧ v10 = .int .i64 aA ∧ Aside0 (planner_bound.l0 kq aI aL aB (aB.length : Int) aA aC aF aG aB aH = some r) ∧ Aside0 (kq ≤ k) ∧ Aside0 (w'.heap[aE]? = some (.cells #[(.slice aM aC.length aN), (.slice aO aF.length aP), (.slice aQ aG.length aR), (.slice aV aB.length aS), .int .i64 aH] 28 (0, 0))) ∧ Aside0 (Below w.heap.size w w'))
 case atStart => exact ⟨(0), (0), (0), (by first | rfl | (simp; done) | (simp [*]; done)), (by first | rfl | (simp; done) | (simp [*]; done)), (by first | rfl | (simp; done) | (simp [*]; done)), H', ⟨Nat.le_refl _⟩, ⟨by exact qB aD.out⟩, ⟨by repeat (first | (with_reducible first | exact HB.out | apply below_alloc | apply pw_below_drewN | apply below_drew1 | refine below_set ?_ aX.out) | exact HB.out)⟩⟩
 case round =>
  clear H'
  try clear p2
  try clear bT
  try clear bU
  try clear bV
  try clear bW
  try clear bX
  try clear bY
  try clear bZ
  try clear cA
  try clear cB
  try clear cC
  obtain ⟨aI, aL, aA, rfl, rfl, rfl, HA, HK1, aD, HB⟩ := hrel
  cases gk with
  | zero => exact absurd HA.out (by simp [planner_bound.l0])
  | succ k1 =>
   have H := HA.out
   clear HA
   simp only [planner_bound.l0] at H
   by_cases c4 : aA < (aB.length : Int)
   case neg =>
    rw [if_neg c4] at H
    have cD : decide (aA < (aB.length : Int)) = false := decide_eq_false c4
    clear c4
    obtain rfl := Option.some.inj H
    go_wp2
    go_ret
    exact ⟨by first | rfl | (simp [errW_none, errW_some] <;> rfl) | (simp [*, errW_none, errW_some] <;> rfl), by repeat (first | (with_reducible first | exact HB.out | apply below_alloc | apply pw_below_drewN | apply below_drew1 | refine below_set ?_ aX.out) | exact HB.out)⟩

   rw [if_pos c4] at H
   have cD : decide (aA < (aB.length : Int)) = true := decide_eq_true c4
   clear c4
   by_cases c5 : 0 ≤ aA
   case neg =>
    rw [if_neg c5] at H
    exact absurd H (by simp)
   rw [if_pos c5] at H
   have cO : decide (0 ≤ aA) = true := decide_eq_true c5
   clear c5
   by_cases c6 : aA < (aB.length : Int)
   case neg =>
    rw [if_neg c6] at H
    exact absurd H (by simp)
   rw [if_pos c6] at H
   have cP : decide (aA < (aB.length : Int)) = true := decide_eq_true c6
   clear c6
   by_cases c7 : aA = 0
   ·rw [if_pos c7] at H
    have cE : (aA == 0) = true := beq_iff_eq.mpr c7
    have cF : (aA != 0) = false := bne_eq_false_iff_eq.mpr c7
    clear c7
    obtain ⟨ji8, bF⟩ : ∃ j_ : Int, (mx aI (wrap64 ((wrap64 ((rd aB aA) - 1)) - aL))) = j_ := ⟨_, rfl⟩
    replace H : (if aA < (aC.length : Int) then (planner_bound.l0 k1 (mx (ji8) (wrap64 ((rd aB aA) - (rd aC aA)))) (rd aC aA) aB (aB.length : Int) (wrap64 (aA + 1)) aC aF aG aB aH) else (none)) = some r := by first | (rw [bF] at H; exact H) | (simp only [bF] at H ⊢; exact H)
    have cQ : (if aI < (wrap64 ((wrap64 ((rd aB aA) - 1)) - aL)) then (wrap64 ((wrap64 ((rd aB aA) - 1)) - aL)) else aI) = ji8 := bF
    by_cases c9 : aA < (aC.length : Int)
    case neg =>
     rw [if_neg c9] at H
     exact absurd H (by simp)
    rw [if_pos c9] at H
    have cR : decide (aA < (aC.length : Int)) = true := decide_eq_true c9
    clear c9
    obtain ⟨ji10, aY⟩ : ∃ j_ : Int, (mx (ji8) (wrap64 ((rd aB aA) - (rd aC aA)))) = j_ := ⟨_, rfl⟩
    replace H : (planner_bound.l0 k1 ji10 (rd aC aA) aB (aB.length : Int) (wrap64 (aA + 1)) aC aF aG aB aH) = some r := by first | (rw [aY] at H; exact H) | (simp only [aY] at H ⊢; exact H)
    have cS : (if (ji8) < (wrap64 ((rd aB aA) - (rd aC aA))) then (wrap64 ((rd aB aA) - (rd aC aA))) else (ji8)) = ji10 := aY
    have H' := Aside0.mk H
    clear H
    have p110 : 0 ≤ (aA : Int) := of_decide_eq_true (by first | (with_reducible assumption) | assumption)
    have q110 : aA < (aB.length : Int) := of_decide_eq_true (by first | (with_reducible assumption) | assumption)
    obtain ⟨ad110, e110, aK⟩ := Kd.at_int aW.out aA p110 q110
    cases e110
    replace aK := (HB.out.cell (World.block_lt_of_cell? w _ aK)).trans aK
    replace p110 := eq_true p110
    replace q110 := eq_true q110
    have cT : wr.cell? ⟨aE, 0, none⟩ = some (.slice aM aC.length aN) := (blk_cell aD.out 0).trans rfl
    have cU : wr.cell? ⟨aE, 1, none⟩ = some (.slice aO aF.length aP) := (blk_cell aD.out 1).trans rfl
    have cV : wr.cell? ⟨aE, 2, none⟩ = some (.slice aQ aG.length aR) := (blk_cell aD.out 2).trans rfl
    have cW : wr.cell? ⟨aE, 3, none⟩ = some (.slice (some ad110) aB.length aS) := (blk_cell aD.out 3).trans rfl
    have cX : wr.cell? ⟨aE, 4, none⟩ = some (.int .i64 aH) := (blk_cell aD.out 4).trans rfl
    have cY := blk_frozen aD.out 0
    have cZ := blk_frozen aD.out 1
    have dA := blk_frozen aD.out 2
    have dB := blk_frozen aD.out 3
    have dC := blk_frozen aD.out 4
    have p111 : 0 ≤ (aA : Int) := of_decide_eq_true (by first | (with_reducible assumption) | assumption)
    have q111 : aA < (aC.length : Int) := of_decide_eq_true (by first | (with_reducible assumption) | assumption)
    obtain ⟨ad111, e111, bG⟩ := Kd.at_int bE.out aA p111 q111
    cases e111
    replace bG := (HB.out.cell (World.block_lt_of_cell? w _ bG)).trans bG
    replace p111 := eq_true p111
    replace q111 := eq_true q111
    go_wp2
    go_roundg k1
    case measure => have := HK1.out; omega
    case rel => exact ⟨(ji10), (rd aC aA), (wrap64 (aA + 1)), (by first | rfl | (simp; done) | (simp only [← aY] <;> (first | rfl | simp)) | (simp [*]; done)), (by first | rfl | (simp; done) | (simp [*]; done)), (by first | rfl | (simp; done) | (simp [*]; done)), H', ⟨by have := HK1.out; omega⟩, ⟨by exact qB aD.out⟩, ⟨by repeat (first | (with_reducible first | exact HB.out | apply below_alloc | apply pw_below_drewN | apply below_drew1 | refine below_set ?_ aX.out) | exact HB.out)⟩⟩
   ·rw [if_neg c7] at H
    have cE : (aA == 0) = false := beq_eq_false_iff_ne.mpr c7
    have cF : (aA != 0) = true := bne_iff_ne.mpr c7
    obtain ⟨ji12, bH⟩ : ∃ j_ : Int, (wrap64 (aA - 1)) = j_ := ⟨_, rfl⟩
    replace H : (if 0 ≤ (ji12) then (if (ji12) < (aB.length : Int) then (if (rd aB aA) > (rd aB (ji12)) then (if aA < (aC.length : Int) then (planner_bound.l0 k1 (mx (mx aI (wrap64 ((wrap64 ((rd aB aA) - 1)) - aL))) (wrap64 ((rd aB aA) - (rd aC aA)))) (rd aC aA) aB (aB.length : Int) (wrap64 (aA + 1)) aC aF aG aB aH) else (none)) else (if aA < (aC.length : Int) then (planner_bound.l0 k1 (mx aI (wrap64 ((rd aB aA) - (rd aC aA)))) (rd aC aA) aB (aB.length : Int) (wrap64 (aA + 1)) aC aF aG aB aH) else (none))) else (none)) else (none)) = some r := by first | (rw [bH] at H; exact H) | (simp only [bH] at H ⊢; exact H)
    have dD : (IntKind.i64.wrap (aA - 1)) = ji12 := (i64_w _).trans bH
    by_cases c13 : 0 ≤ (ji12)
    case neg =>
     rw [if_neg c13] at H
     exact absurd H (by simp)
    rw [if_pos c13] at H
    have dE : decide (0 ≤ (ji12)) = true := decide_eq_true c13
    clear c13
    by_cases c14 : (ji12) < (aB.length : Int)
    case neg =>
     rw [if_neg c14] at H
     exact absurd H (by simp)
    rw [if_pos c14] at H
    have dF : decide ((ji12) < (aB.length : Int)) = true := decide_eq_true c14
    clear c14
    by_cases c15 : (rd aB aA) > (rd aB (ji12))
    case neg =>
     rw [if_neg c15] at H
     have cG : decide ((rd aB (ji12)) < (rd aB aA)) = false := decide_eq_false c15
     clear c15
     by_cases c20 : aA < (aC.length : Int)
     case neg =>
      rw [if_neg c20] at H
      exact absurd H (by simp)
     rw [if_pos c20] at H
     have dG : decide (aA < (aC.length : Int)) = true := decide_eq_true c20
     clear c20
     obtain ⟨ji21, aZ⟩ : ∃ j_ : Int, (mx aI (wrap64 ((rd aB aA) - (rd aC aA)))) = j_ := ⟨_, rfl⟩
     replace H : (planner_bound.l0 k1 ji21 (rd aC aA) aB (aB.length : Int) (wrap64 (aA + 1)) aC aF aG aB aH) = some r := by first | (rw [aZ] at H; exact H) | (simp only [aZ] at H ⊢; exact H)
     have dH : (if aI < (wrap64 ((rd aB aA) - (rd aC aA))) then (wrap64 ((rd aB aA) - (rd aC aA))) else aI) = ji21 := aZ
     have H' := Aside0.mk H
     clear H
     have p110 : 0 ≤ (aA : Int) := of_decide_eq_true (by first | (with_reducible assumption) | assumption)
     have q110 : aA < (aB.length : Int) := of_decide_eq_true (by first | (with_reducible assumption) | assumption)
     obtain ⟨ad110, e110, aK⟩ := Kd.at_int aW.out aA p110 q110
     cases e110
     replace aK := (HB.out.cell (World.block_lt_of_cell? w _ aK)).trans aK
     replace p110 := eq_true p110
     replace q110 := eq_true q110
     have dI : wr.cell? ⟨aE, 0, none⟩ = some (.slice aM aC.length aN) := (blk_cell aD.out 0).trans rfl
     have dJ : wr.cell? ⟨aE, 1, none⟩ = some (.slice aO aF.length aP) := (blk_cell aD.out 1).trans rfl
     have dK : wr.cell? ⟨aE, 2, none⟩ = some (.slice aQ aG.length aR) := (blk_cell aD.out 2).trans rfl
     have dL : wr.cell? ⟨aE, 3, none⟩ = some (.slice (some ad110) aB.length aS) := (blk_cell aD.out 3).trans rfl
     have dM : wr.cell? ⟨aE, 4, none⟩ = some (.int .i64 aH) := (blk_cell aD.out 4).trans rfl
     have dN := blk_frozen aD.out 0
     have dO := blk_frozen aD.out 1
     have dP := blk_frozen aD.out 2
     have dQ := blk_frozen aD.out 3
     have dR := blk_frozen aD.out 4
     have p112 : 0 ≤ ((ji12) : Int) := of_decide_eq_true (by first | (with_reducible assumption) | assumption)
     have q112 : (ji12) < (aB.length : Int) := of_decide_eq_true (by first | (with_reducible assumption) | assumption)
     obtain ⟨ad112, e112, aT⟩ := Kd.at_int aW.out (ji12) p112 q112
     obtain rfl : ad110 = ad112 := (by injection e112)
     replace aT := (HB.out.cell (World.block_lt_of_cell? w _ aT)).trans aT
     replace p112 := eq_true p112
     replace q112 := eq_true q112
     have p114 : 0 ≤ (aA : Int) := of_decide_eq_true (by first | (with_reducible assumption) | assumption)
     have q114 : aA < (aC.length : Int) := of_decide_eq_true (by first | (with_reducible assumption) | assumption)
     obtain ⟨ad114, e114, bI⟩ := Kd.at_int bE.out aA p114 q114
     cases e114
     replace bI := (HB.out.cell (World.block_lt_of_cell? w _ bI)).trans bI
     replace p114 := eq_true p114
     replace q114 := eq_true q114
     go_wp2
     go_roundg k1
     case measure => have := HK1.out; omega
     case rel => exact ⟨(ji21), (rd aC aA), (wrap64 (aA + 1)), (by first | rfl | (simp; done) | (simp only [← aZ] <;> (first | rfl | simp)) | (simp [*]; done)), (by first | rfl | (simp; done) | (simp [*]; done)), (by first | rfl | (simp; done) | (simp [*]; done)), H', ⟨by have := HK1.out; omega⟩, ⟨by exact qB aD.out⟩, ⟨by repeat (first | (with_reducible first | exact HB.out | apply below_alloc | apply pw_below_drewN | apply below_drew1 | refine below_set ?_ aX.out) | exact HB.out)⟩⟩
    rw [if_pos c15] at H
    have cG : decide ((rd aB (ji12)) < (rd aB aA)) = true := decide_eq_true c15
    clear c15
    obtain ⟨ji16, bJ⟩ : ∃ j_ : Int, (mx aI (wrap64 ((wrap64 ((rd aB aA) - 1)) - aL))) = j_ := ⟨_, rfl⟩
    replace H : (if aA < (aC.length : Int) then (planner_bound.l0 k1 (mx (ji16) (wrap64 ((rd aB aA) - (rd aC aA)))) (rd aC aA) aB (aB.length : Int) (wrap64 (aA + 1)) aC aF aG aB aH) else (none)) = some r := by first | (rw [bJ] at H; exact H) | (simp only [bJ] at H ⊢; exact H)
    have dS : (if aI < (wrap64 ((wrap64 ((rd aB aA) - 1)) - aL)) then (wrap64 ((wrap64 ((rd aB aA) - 1)) - aL)) else aI) = ji16 := bJ
    by_cases c17 : aA < (aC.length : Int)
    case neg =>
     rw [if_neg c17] at H
     exact absurd H (by simp)
    rw [if_pos c17] at H
    have dT : decide (aA < (aC.length : Int)) = true := decide_eq_true c17
    clear c17
    obtain ⟨ji18, bA⟩ : ∃ j_ : Int, (mx (ji16) (wrap64 ((rd aB aA) - (rd aC aA)))) = j_ := ⟨_, rfl⟩
    replace H : (planner_bound.l0 k1 ji18 (rd aC aA) aB (aB.length : Int) (wrap64 (aA + 1)) aC aF aG aB aH) = some r := by first | (rw [bA] at H; exact H) | (simp only [bA] at H ⊢; exact H)
    have dU : (if (ji16) < (wrap64 ((rd aB aA) - (rd aC aA))) then (wrap64 ((rd aB aA) - (rd aC aA))) else (ji16)) = ji18 := bA
    have H' := Aside0.mk H
    clear H
    have p110 : 0 ≤ (aA : Int) := of_decide_eq_true (by first | (with_reducible assumption) | assumption)
    have q110 : aA < (aB.length : Int) := of_decide_eq_true (by first | (with_reducible assumption) | assumption)
    obtain ⟨ad110, e110, aK⟩ := Kd.at_int aW.out aA p110 q110
    cases e110
    replace aK := (HB.out.cell (World.block_lt_of_cell? w _ aK)).trans aK
    replace p110 := eq_true p110
    replace q110 := eq_true q110
    have dV : wr.cell? ⟨aE, 0, none⟩ = some (.slice aM aC.length aN) := (blk_cell aD.out 0).trans rfl
    have dW : wr.cell? ⟨aE, 1, none⟩ = some (.slice aO aF.length aP) := (blk_cell aD.out 1).trans rfl
    have dX : wr.cell? ⟨aE, 2, none⟩ = some (.slice aQ aG.length aR) := (blk_cell aD.out 2).trans rfl
    have dY : wr.cell? ⟨aE, 3, none⟩ = some (.slice (some ad110) aB.length aS) := (blk_cell aD.out 3).trans rfl
    have dZ : wr.cell? ⟨aE, 4, none⟩ = some (.int .i64 aH) := (blk_cell aD.out 4).trans rfl
    have eA := blk_frozen aD.out 0
    have eB := blk_frozen aD.out 1
    have eC := blk_frozen aD.out 2
    have eD := blk_frozen aD.out 3
    have eE := blk_frozen aD.out 4
    have p112 : 0 ≤ ((ji12) : Int) := of_decide_eq_true (by first | (with_reducible assumption) | assumption)
    have q112 : (ji12) < (aB.length : Int) := of_decide_eq_true (by first | (with_reducible assumption) | assumption)
    obtain ⟨ad112, e112, aT⟩ := Kd.at_int aW.out (ji12) p112 q112
    obtain rfl : ad110 = ad112 := (by injection e112)
    replace aT := (HB.out.cell (World.block_lt_of_cell? w _ aT)).trans aT
    replace p112 := eq_true p112
    replace q112 := eq_true q112
    have p113 : 0 ≤ (aA : Int) := of_decide_eq_true (by first | (with_reducible assumption) | assumption)
    have q113 : aA < (aC.length : Int) := of_decide_eq_true (by first | (with_reducible assumption) | assumption)
    obtain ⟨ad113, e113, bK⟩ := Kd.at_int bE.out aA p113 q113
    cases e113
    replace bK := (HB.out.cell (World.block_lt_of_cell? w _ bK)).trans bK
    replace p113 := eq_true p113
    replace q113 := eq_true q113
    go_wp2
    go_roundg k1
    case measure => have := HK1.out; omega
    case rel => exact ⟨(ji18), (rd aC aA), (wrap64 (aA + 1)), (by first | rfl | (simp; done) | (simp only [← bA] <;> (first | rfl | simp)) | (simp [*]; done)), (by first | rfl | (simp; done) | (simp [*]; done)), (by first | rfl | (simp; done) | (simp [*]; done)), H', ⟨by have := HK1.out; omega⟩, ⟨by exact qB aD.out⟩, ⟨by repeat (first | (with_reducible first | exact HB.out | apply below_alloc | apply pw_below_drewN | apply below_drew1 | refine below_set ?_ aX.out) | exact HB.out)⟩⟩
end Go.Proofs.Ytcflacjidabppaa.Pr

-- Written by pp.py, a program of this session, over the translation of the given program; a machine's text: Lean checks it.
import Derived.Test.YtcflacjidabppaaGShort
namespace Go.Proofs.Ytcflacjidabppaa.Pr
open Go.RowKit Go.Proofs.YtcflacjidabppaaW.PrintWords Go.Proofs.YtcflacjidabppaaW.PrintLast Go.Proofs.YtcflacjidabppaaW.PrintMore
attribute [local go_sem] max2_int min2_int max_two min_two max_three min_three max_four min_four   -- for this text's walks alone
set_option linter.unusedVariables false
set_option linter.unusedSimpArgs false

/-! ### standbyref56_finish: function 38 -/
mutual
def standbyref56_finish.j1 : Nat → Int → Int → List Int → List Int → Int → Int → Int → Option (Int × Bool)
 | 0, _, _, _, _, _, _, _ => none
 | k + 1, x2, x8, aT, aE, aU, aV, aW => if x2 ≤ 0 then (some (x8, true)) else (if 0 ≤ (wrap64 ((aE.length : Int) - 1)) then (if (wrap64 ((aE.length : Int) - 1)) < (aE.length : Int) then (if (rd aE (wrap64 ((aE.length : Int) - 1))) = 0 then (some (0, false)) else (some (wrap64 (x8 + (wrap64 (Int.tdiv (wrap64 ((wrap64 (x2 + (rd aE (wrap64 ((aE.length : Int) - 1))))) - 1)) (rd aE (wrap64 ((aE.length : Int) - 1)))))), true))) else (none)) else (none))
def standbyref56_finish.l0 : Nat → Int → Int → List Int → List Int → Int → Int → Int → Option (Int × Bool)
 | 0, _, _, _, _, _, _, _ => none
 | k + 1, x2, x8, aT, aE, aU, aV, aW => if x8 < (aE.length : Int) then (if x2 > 0 then (if 0 ≤ x8 then (standbyref56_finish.l0 k (wrap64 (x2 - (rd aE x8))) (wrap64 (x8 + 1)) aT aE aU aV aW) else (none)) else (standbyref56_finish.j1 k x2 x8 aT aE aU aV aW)) else (standbyref56_finish.j1 k x2 x8 aT aE aU aV aW)
end
def standbyref56_finish.f (k : Nat) (aD : List Int) (aB : List Int) (aF : Int) (aG : Int) (aH : Int) (a1 : Int) (a2 : Int) : Option (Int × Bool) := standbyref56_finish.l0 k a2 a1 aD aB aF aG aH
theorem standbyref56_finish.mono_l : ∀ k, (∀ y0 y1 y2 y3 y4 y5 y6, LeO (standbyref56_finish.j1 k y0 y1 y2 y3 y4 y5 y6) (standbyref56_finish.j1 (k + 1) y0 y1 y2 y3 y4 y5 y6)) ∧ (∀ y0 y1 y2 y3 y4 y5 y6, LeO (standbyref56_finish.l0 k y0 y1 y2 y3 y4 y5 y6) (standbyref56_finish.l0 (k + 1) y0 y1 y2 y3 y4 y5 y6))
 | 0 => ⟨fun _ _ _ _ _ _ _ r h => by simp [standbyref56_finish.j1] at h, fun _ _ _ _ _ _ _ r h => by simp [standbyref56_finish.l0] at h⟩
 | k + 1 => by
  obtain ⟨ih0, ih1⟩ := standbyref56_finish.mono_l k
  refine ⟨?_, ?_⟩
  ·intro y0 y1 y2 y3 y4 y5 y6
   unfold standbyref56_finish.j1
   repeat' first
   | (with_reducible exact ih0 _ _ _ _ _ _ _)
   | (with_reducible exact ih1 _ _ _ _ _ _ _)
   | (with_reducible exact LeO.refl _)
   | (with_reducible exact LeO.none _)
   | (with_reducible refine LeO.ite ?_ ?_)
   | (with_reducible refine LeO.bind ?_ (fun _ => ?_))
   | exact ih0 _ _ _ _ _ _ _
   | exact ih1 _ _ _ _ _ _ _
   | exact LeO.none _
   | refine LeO.ite ?_ ?_
   | refine LeO.bind ?_ (fun _ => ?_)
  ·intro y0 y1 y2 y3 y4 y5 y6
   unfold standbyref56_finish.l0
   repeat' first
   | (with_reducible exact ih0 _ _ _ _ _ _ _)
   | (with_reducible exact ih1 _ _ _ _ _ _ _)
   | (with_reducible exact LeO.refl _)
   | (with_reducible exact LeO.none _)
   | (with_reducible refine LeO.ite ?_ ?_)
   | (with_reducible refine LeO.bind ?_ (fun _ => ?_))
   | exact ih0 _ _ _ _ _ _ _
   | exact ih1 _ _ _ _ _ _ _
   | exact LeO.none _
   | refine LeO.ite ?_ ?_
   | refine LeO.bind ?_ (fun _ => ?_)
theorem standbyref56_finish.mono : ∀ a0 a1 a2 a3 a4 a5 a6 k, LeO (standbyref56_finish.f k a0 a1 a2 a3 a4 a5 a6) (standbyref56_finish.f (k + 1) a0 a1 a2 a3 a4 a5 a6) := by
 intro a0 a1 a2 a3 a4 a5 a6 k
 obtain ⟨ih0, ih1⟩ := standbyref56_finish.mono_l k
 unfold standbyref56_finish.f
 repeat' first
   | (with_reducible exact ih0 _ _ _ _ _ _ _)
   | (with_reducible exact ih1 _ _ _ _ _ _ _)
   | (with_reducible exact LeO.refl _)
   | (with_reducible exact LeO.none _)
   | (with_reducible refine LeO.ite ?_ ?_)
   | (with_reducible refine LeO.bind ?_ (fun _ => ?_))
   | exact ih0 _ _ _ _ _ _ _
   | exact ih1 _ _ _ _ _ _ _
   | exact LeO.none _
   | refine LeO.ite ?_ ?_
   | refine LeO.bind ?_ (fun _ => ?_)
set_option maxHeartbeats 8000000 in
set_option maxRecDepth 100000 in
theorem standbyref56_finish.calls (k : Nat) (aJ : Option Addr) (aK : Nat) (aD : List Int) (aL : Option Addr) (aM : Nat) (aB : List Int) (aF : Int) (aG : Int) (aH : Int) (a1 : Int) (a2 : Int) (r1 : Int) (r2 : Bool) (w : World) (bA : Kd.C (Kd.int .i64) w aJ aD.length aD) (bB : aD.length ≤ aK) (bC : Kd.C (Kd.int .i64) w aL aB.length aB) (bD : aB.length ≤ aM) (h : standbyref56_finish.f k aD aB aF aG aH a1 a2 = some (r1, r2)) :
  Calls Try.prog 38 #[.agg #[.slice aJ aD.length aK, .slice aL aB.length aM, .int .i64 aF, .int .i64 aG, .int .i64 aH], .int .i64 a1, .int .i64 a2] w fun e w' => e = .returned (.tuple #[.int .i64 r1, .bool r2]) ∧ Below w.heap.size w w' := by
 have hu24 := Try.underlying24
 have cN := Aside0.mk bA
 have cO := Aside0.mk bB
 clear bA bB
 have aZ := Aside0.mk bC
 have cP := Aside0.mk bD
 clear bC bD
 have HB := Aside0.mk (Below.refl w.heap.size w)
 have H : (standbyref56_finish.l0 k a2 a1 aD aB aF aG aH) = some (r1, r2) := h
 clear h
 have HC4 := Aside0.mk H
 clear H
 go_enter Try.func38, Try.ntmps38
 go_upto_block 0 with (first | ((with_reducible refine gate_dst (N := 3) rfl ?_); refine box_event ?hg (N := 3) ?hd (cs := #[.slice aJ aD.length aK, .slice aL aB.length aM, .int .i64 aF, .int .i64 aG, .int .i64 aH]) (t := 24) ?hr ?_; (case hd => rfl); (case hg => rfl); (case hr => first | (go_simp; done) | (go_simp; rfl)); intro aC hg w5 hbox hb; have n0_ := Aside0.mk (below_step (qW HB.out) hb); have n1_ := Aside0.mk (hbox); have n2_ := Aside0.mk ((by rw [hg]; exact (below_size (qW HB.out)) : w.heap.size ≤ aC)); have n3_ := Aside0.mk ((by rw [hg]; exact (below_size (qW HB.out)) : w.heap.size ≤ aC)); clear HB; have HB := n0_; have aA := n1_; have cQ := n2_; have aO := n3_; clear n0_ n1_ n2_ n3_ hb hbox hg))
 (try simp only [Act.put, List.setIfInBounds_toArray, List.set_cons_zero, List.set_cons_succ])
 go_cut [2, 8] (fun v2 v8 wc => ∃ (kq : Nat) (aP : Int) (aX : Int), v2 = .int .i64 aP ∧ v8 = .int .i64 aX ∧ Aside0 (standbyref56_finish.j1 kq aP aX aD aB aF aG aH = some (r1, r2)) ∧ Aside0 (kq ≤ k) ∧ Aside0 (wc.heap[aC]? = some (.cells #[(.slice aJ aD.length aK), (.slice aL aB.length aM), .int .i64 aF, .int .i64 aG, .int .i64 aH] 24 (0, 0))) ∧ Aside0 (Below w.heap.size w wc))
 case first =>
  have H := HC4.out
  clear HC4
  have H' := Aside0.mk H
  clear H
  go_wp2
  go_loopg [2, 8] k (fun kq v2 v8 w' => ∃ (aN : Int) (aI : Int), v2 = .int .i64 aN ∧ v8 = .int .i64 aI ∧ Aside0 (standbyref56_finish.l0 kq aN aI aD aB aF aG aH = some (r1, r2)) ∧ Aside0 (kq ≤ k) ∧ Aside0 (w'.heap[aC]? = some (.cells #[(.slice aJ aD.length aK), (.slice aL aB.length aM), .int .i64 aF, .int .i64 aG, .int .i64 aH] 24 (0, 0))) ∧ Aside0 (Below w.heap.size w w'))
  case atStart => exact ⟨(a2), (a1), (by first | rfl | (simp; done) | (simp [*]; done)), (by first | rfl | (simp; done) | (simp [*]; done)), H', ⟨Nat.le_refl _⟩, ⟨by exact qB aA.out⟩, ⟨by repeat (first | (with_reducible first | exact HB.out | apply below_alloc | apply pw_below_drewN | apply below_drew1 | refine below_set ?_ aO.out) | exact HB.out)⟩⟩
  case round =>
   clear H'
   try clear p2
   try clear c3
   obtain ⟨aN, aI, rfl, rfl, HA, HK1, aA, HB⟩ := hrel
   cases gk with
   | zero => exact absurd HA.out (by simp [standbyref56_finish.l0])
   | succ k1 =>
    have H := HA.out
    clear HA
    simp only [standbyref56_finish.l0] at H
    by_cases c6 : aI < (aB.length : Int)
    case neg =>
     rw [if_neg c6] at H
     have aR : decide (aI < (aB.length : Int)) = false := decide_eq_false c6
     clear c6
     (first | rw [aR] | (simp only [i64_w, i32_w]; rw [aR]) | skip)
     have H' := Aside0.mk H
     clear H
     have bF : wr.cell? ⟨aC, 0, none⟩ = some (.slice aJ aD.length aK) := (blk_cell aA.out 0).trans rfl
     have bG : wr.cell? ⟨aC, 1, none⟩ = some (.slice aL aB.length aM) := (blk_cell aA.out 1).trans rfl
     have bH : wr.cell? ⟨aC, 2, none⟩ = some (.int .i64 aF) := (blk_cell aA.out 2).trans rfl
     have bI : wr.cell? ⟨aC, 3, none⟩ = some (.int .i64 aG) := (blk_cell aA.out 3).trans rfl
     have bJ : wr.cell? ⟨aC, 4, none⟩ = some (.int .i64 aH) := (blk_cell aA.out 4).trans rfl
     have bK := blk_frozen aA.out 0
     have bL := blk_frozen aA.out 1
     have bM := blk_frozen aA.out 2
     have bN := blk_frozen aA.out 3
     have bO := blk_frozen aA.out 4
     go_wp2
     go_meet
     case rel => exact ⟨_, (aN), (aI), (by first | rfl | (simp; done) | (simp [*]; done)), (by first | rfl | (simp; done) | (simp [*]; done)), H', ⟨by have := HK1.out; first | omega | exact Nat.le_refl _⟩, ⟨by exact qB aA.out⟩, ⟨by repeat (first | (with_reducible first | exact HB.out | apply below_alloc | apply pw_below_drewN | apply below_drew1 | refine below_set ?_ aO.out) | exact HB.out)⟩⟩
    rw [if_pos c6] at H
    have aR : decide (aI < (aB.length : Int)) = true := decide_eq_true c6
    clear c6
    (first | rw [aR] | (simp only [i64_w, i32_w]; rw [aR]) | skip)
    by_cases c7 : aN > 0
    case neg =>
     rw [if_neg c7] at H
     have bE : decide (0 < aN) = false := decide_eq_false c7
     clear c7
     have H' := Aside0.mk H
     clear H
     have bP : wr.cell? ⟨aC, 0, none⟩ = some (.slice aJ aD.length aK) := (blk_cell aA.out 0).trans rfl
     have bQ : wr.cell? ⟨aC, 1, none⟩ = some (.slice aL aB.length aM) := (blk_cell aA.out 1).trans rfl
     have bR : wr.cell? ⟨aC, 2, none⟩ = some (.int .i64 aF) := (blk_cell aA.out 2).trans rfl
     have bS : wr.cell? ⟨aC, 3, none⟩ = some (.int .i64 aG) := (blk_cell aA.out 3).trans rfl
     have bT : wr.cell? ⟨aC, 4, none⟩ = some (.int .i64 aH) := (blk_cell aA.out 4).trans rfl
     have bU := blk_frozen aA.out 0
     have bV := blk_frozen aA.out 1
     have bW := blk_frozen aA.out 2
     have bX := blk_frozen aA.out 3
     have bY := blk_frozen aA.out 4
     go_wp2
     go_meet
     case rel => exact ⟨_, (aN), (aI), (by first | rfl | (simp; done) | (simp [*]; done)), (by first | rfl | (simp; done) | (simp [*]; done)), H', ⟨by have := HK1.out; first | omega | exact Nat.le_refl _⟩, ⟨by exact qB aA.out⟩, ⟨by repeat (first | (with_reducible first | exact HB.out | apply below_alloc | apply pw_below_drewN | apply below_drew1 | refine below_set ?_ aO.out) | exact HB.out)⟩⟩
    rw [if_pos c7] at H
    have bE : decide (0 < aN) = true := decide_eq_true c7
    clear c7
    by_cases c8 : 0 ≤ aI
    case neg =>
     rw [if_neg c8] at H
     exact absurd H (by simp)
    rw [if_pos c8] at H
    have bZ : decide (0 ≤ aI) = true := decide_eq_true c8
    clear c8
    have H' := Aside0.mk H
    clear H
    have cA : wr.cell? ⟨aC, 0, none⟩ = some (.slice aJ aD.length aK) := (blk_cell aA.out 0).trans rfl
    have cB : wr.cell? ⟨aC, 1, none⟩ = some (.slice aL aB.length aM) := (blk_cell aA.out 1).trans rfl
    have cC : wr.cell? ⟨aC, 2, none⟩ = some (.int .i64 aF) := (blk_cell aA.out 2).trans rfl
    have cD : wr.cell? ⟨aC, 3, none⟩ = some (.int .i64 aG) := (blk_cell aA.out 3).trans rfl
    have cE : wr.cell? ⟨aC, 4, none⟩ = some (.int .i64 aH) := (blk_cell aA.out 4).trans rfl
    have cF := blk_frozen aA.out 0
    have cG := blk_frozen aA.out 1
    have cH := blk_frozen aA.out 2
    have cI := blk_frozen aA.out 3
    have cJ := blk_frozen aA.out 4
    have p178 : 0 ≤ (aI : Int) := of_decide_eq_true (by first | (with_reducible assumption) | assumption)
    have q178 : aI < (aB.length : Int) := of_decide_eq_true (by first | (with_reducible assumption) | assumption)
    obtain ⟨ad178, e178, aY⟩ := Kd.at_int aZ.out aI p178 q178
    cases e178
    replace aY := (HB.out.cell (World.block_lt_of_cell? w _ aY)).trans aY
    replace p178 := eq_true p178
    replace q178 := eq_true q178
    go_wp2
    go_roundg k1
    case measure => have := HK1.out; omega
    case rel => exact ⟨(wrap64 (aN - (rd aB aI))), (wrap64 (aI + 1)), (by first | rfl | (simp; done) | (simp [*]; done)), (by first | rfl | (simp; done) | (simp [*]; done)), H', ⟨by have := HK1.out; omega⟩, ⟨by exact qB aA.out⟩, ⟨by repeat (first | (with_reducible first | exact HB.out | apply below_alloc | apply pw_below_drewN | apply below_drew1 | refine below_set ?_ aO.out) | exact HB.out)⟩⟩
 case rest =>
  clear HC4
  try clear p1
  try clear q1
  try clear hx1
  try clear p2
  try clear c3
  try clear c6
  try clear aR
  try clear p6
  try clear c7
  try clear bE
  try clear c8
  try clear bZ
  try clear bP
  try clear bQ
  try clear bR
  try clear bS
  try clear bT
  try clear bF
  try clear bG
  try clear bH
  try clear bI
  try clear bJ
  try clear cA
  try clear cB
  try clear cC
  try clear cD
  try clear cE
  try clear bU
  try clear bV
  try clear bW
  try clear bX
  try clear bY
  try clear bK
  try clear bL
  try clear bM
  try clear bN
  try clear bO
  try clear cF
  try clear cG
  try clear cH
  try clear cI
  try clear cJ
  try clear aY
  try clear p178
  try clear p2
  try clear q178
  obtain ⟨kq, aP, aX, rfl, rfl, HA, HJ3, aA, HB⟩ := hcut
  cases kq with
  | zero => exact absurd HA.out (by simp [standbyref56_finish.j1])
  | succ kj3 =>
   have H := HA.out
   clear HA
   simp only [standbyref56_finish.j1] at H
   by_cases c12 : aP ≤ 0
   ·rw [if_pos c12] at H
    have cK : decide (aP ≤ 0) = true := decide_eq_true c12
    clear c12
    simp only [Option.some.injEq, Prod.mk.injEq] at H
    obtain ⟨rfl, rfl⟩ := H
    go_wp2
    go_ret2
    exact ⟨by first | rfl | (simp [errW_none, errW_some] <;> rfl) | (simp [*, errW_none, errW_some] <;> rfl), by repeat (first | (with_reducible first | exact HB.out | apply below_alloc | apply pw_below_drewN | apply below_drew1 | refine below_set ?_ aO.out) | exact HB.out)⟩
   ·rw [if_neg c12] at H
    have cK : decide (aP ≤ 0) = false := decide_eq_false c12
    clear c12
    obtain ⟨ji13, aS⟩ : ∃ j_ : Int, (wrap64 ((aB.length : Int) - 1)) = j_ := ⟨_, rfl⟩
    replace H : (if 0 ≤ (ji13) then (if (ji13) < (aB.length : Int) then (if (rd aB (ji13)) = 0 then (some (0, false)) else (some (wrap64 (aX + (wrap64 (Int.tdiv (wrap64 ((wrap64 (aP + (rd aB (ji13)))) - 1)) (rd aB (ji13))))), true))) else (none)) else (none)) = some (r1, r2) := by first | (rw [aS] at H; exact H) | (simp only [aS] at H ⊢; exact H)
    have cR : (IntKind.i64.wrap ((aB.length : Int) - 1)) = ji13 := (i64_w _).trans aS
    by_cases c14 : 0 ≤ (ji13)
    case neg =>
     rw [if_neg c14] at H
     exact absurd H (by simp)

    rw [if_pos c14] at H
    have cS : decide (0 ≤ (ji13)) = true := decide_eq_true c14
    clear c14
    by_cases c15 : (ji13) < (aB.length : Int)
    case neg =>
     rw [if_neg c15] at H
     exact absurd H (by simp)
    rw [if_pos c15] at H
    have cT : decide ((ji13) < (aB.length : Int)) = true := decide_eq_true c15
    clear c15
    by_cases c16 : (rd aB (ji13)) = 0
    case neg =>
     rw [if_neg c16] at H
     have cL : ((rd aB (ji13)) == 0) = false := beq_eq_false_iff_ne.mpr c16
     have cM : ((rd aB (ji13)) != 0) = true := bne_iff_ne.mpr c16
     simp only [Option.some.injEq, Prod.mk.injEq] at H
     obtain ⟨rfl, rfl⟩ := H
     have cU : wc.cell? ⟨aC, 0, none⟩ = some (.slice aJ aD.length aK) := (blk_cell aA.out 0).trans rfl
     have cV : wc.cell? ⟨aC, 1, none⟩ = some (.slice aL aB.length aM) := (blk_cell aA.out 1).trans rfl
     have cW : wc.cell? ⟨aC, 2, none⟩ = some (.int .i64 aF) := (blk_cell aA.out 2).trans rfl
     have cX : wc.cell? ⟨aC, 3, none⟩ = some (.int .i64 aG) := (blk_cell aA.out 3).trans rfl
     have cY : wc.cell? ⟨aC, 4, none⟩ = some (.int .i64 aH) := (blk_cell aA.out 4).trans rfl
     have cZ := blk_frozen aA.out 0
     have dA := blk_frozen aA.out 1
     have dB := blk_frozen aA.out 2
     have dC := blk_frozen aA.out 3
     have dD := blk_frozen aA.out 4
     have p179 : 0 ≤ ((ji13) : Int) := of_decide_eq_true (by first | (with_reducible assumption) | assumption)
     have q179 : (ji13) < (aB.length : Int) := of_decide_eq_true (by first | (with_reducible assumption) | assumption)
     obtain ⟨ad179, e179, aQ⟩ := Kd.at_int aZ.out (ji13) p179 q179
     cases e179
     replace aQ := (HB.out.cell (World.block_lt_of_cell? w _ aQ)).trans aQ
     replace p179 := eq_true p179
     replace q179 := eq_true q179
     go_wp2
     go_ret2
     exact ⟨by first | rfl | (simp [errW_none, errW_some] <;> rfl) | (simp only [← aS]; first | rfl | (simp [errW_none, errW_some] <;> rfl)) | (simp [*, errW_none, errW_some] <;> rfl), by repeat (first | (with_reducible first | exact HB.out | apply below_alloc | apply pw_below_drewN | apply below_drew1 | refine below_set ?_ aO.out) | exact HB.out)⟩
    rw [if_pos c16] at H
    have cL : ((rd aB (ji13)) == 0) = true := beq_iff_eq.mpr c16
    have cM : ((rd aB (ji13)) != 0) = false := bne_eq_false_iff_eq.mpr c16
    clear c16
    simp only [Option.some.injEq, Prod.mk.injEq] at H
    obtain ⟨rfl, rfl⟩ := H
    have dE : wc.cell? ⟨aC, 0, none⟩ = some (.slice aJ aD.length aK) := (blk_cell aA.out 0).trans rfl
    have dF : wc.cell? ⟨aC, 1, none⟩ = some (.slice aL aB.length aM) := (blk_cell aA.out 1).trans rfl
    have dG : wc.cell? ⟨aC, 2, none⟩ = some (.int .i64 aF) := (blk_cell aA.out 2).trans rfl
    have dH : wc.cell? ⟨aC, 3, none⟩ = some (.int .i64 aG) := (blk_cell aA.out 3).trans rfl
    have dI : wc.cell? ⟨aC, 4, none⟩ = some (.int .i64 aH) := (blk_cell aA.out 4).trans rfl
    have dJ := blk_frozen aA.out 0
    have dK := blk_frozen aA.out 1
    have dL := blk_frozen aA.out 2
    have dM := blk_frozen aA.out 3
    have dN := blk_frozen aA.out 4
    have p179 : 0 ≤ ((ji13) : Int) := of_decide_eq_true (by first | (with_reducible assumption) | assumption)
    have q179 : (ji13) < (aB.length : Int) := of_decide_eq_true (by first | (with_reducible assumption) | assumption)
    obtain ⟨ad179, e179, aQ⟩ := Kd.at_int aZ.out (ji13) p179 q179
    cases e179
    replace aQ := (HB.out.cell (World.block_lt_of_cell? w _ aQ)).trans aQ
    replace p179 := eq_true p179
    replace q179 := eq_true q179
    go_wp2
    go_ret2
    exact ⟨by first | rfl | (simp [errW_none, errW_some] <;> rfl) | (simp only [← aS]; first | rfl | (simp [errW_none, errW_some] <;> rfl)) | (simp [*, errW_none, errW_some] <;> rfl), by repeat (first | (with_reducible first | exact HB.out | apply below_alloc | apply pw_below_drewN | apply below_drew1 | refine below_set ?_ aO.out) | exact HB.out)⟩
end Go.Proofs.Ytcflacjidabppaa.Pr

-- Written by pp.py, a program of this session, over the translation of the given program; a machine's text: Lean checks it.
import Derived.Test.YtcflacjidabppaaGShort
namespace Go.Proofs.Ytcflacjidabppaa.Pr
open Go.RowKit Go.Proofs.YtcflacjidabppaaW.PrintWords Go.Proofs.YtcflacjidabppaaW.PrintLast Go.Proofs.YtcflacjidabppaaW.PrintMore
attribute [local go_sem] max2_int min2_int max_two min_two max_three min_three max_four min_four   -- for this text's walks alone
set_option linter.unusedVariables false
set_option linter.unusedSimpArgs false

/-! ### standbyref56_Size: function 39 -/
def standbyref56_Size.l0 : Nat → Int → Int → Int → List Int → List Int → Int → Int → Int → Option (Int)
 | 0, _, _, _, _, _, _, _, _ => none
 | k + 1, x1, x5, x6, aO, aV, aQ, aW, aX => if x6 < (wrap64 ((wrap64 (x1 + 1)) * aQ)) then (if x6 < (aO.length : Int) then (if 0 ≤ x6 then (standbyref56_Size.l0 k x1 (wrap64 (x5 + (rd aO x6))) (wrap64 (x6 + 1)) aO aV aQ aW aX) else (none)) else (some x5)) else (some x5)
def standbyref56_Size.f (k : Nat) (aC : List Int) (aF : List Int) (aD : Int) (aG : Int) (aH : Int) (a1 : Int) : Option (Int) := standbyref56_Size.l0 k a1 0 (wrap64 (a1 * aD)) aC aF aD aG aH
theorem standbyref56_Size.mono_l : ∀ k, (∀ y0 y1 y2 y3 y4 y5 y6 y7, LeO (standbyref56_Size.l0 k y0 y1 y2 y3 y4 y5 y6 y7) (standbyref56_Size.l0 (k + 1) y0 y1 y2 y3 y4 y5 y6 y7))
 | 0 => fun _ _ _ _ _ _ _ _ r h => by simp [standbyref56_Size.l0] at h
 | k + 1 => by
  have ih0 := standbyref56_Size.mono_l k
  ·intro y0 y1 y2 y3 y4 y5 y6 y7
   unfold standbyref56_Size.l0
   repeat' first
   | (with_reducible exact ih0 _ _ _ _ _ _ _ _)
   | (with_reducible exact LeO.refl _)
   | (with_reducible exact LeO.none _)
   | (with_reducible refine LeO.ite ?_ ?_)
   | (with_reducible refine LeO.bind ?_ (fun _ => ?_))
   | exact ih0 _ _ _ _ _ _ _ _
   | exact LeO.none _
   | refine LeO.ite ?_ ?_
   | refine LeO.bind ?_ (fun _ => ?_)
theorem standbyref56_Size.mono : ∀ a0 a1 a2 a3 a4 a5 k, LeO (standbyref56_Size.f k a0 a1 a2 a3 a4 a5) (standbyref56_Size.f (k + 1) a0 a1 a2 a3 a4 a5) := by
 intro a0 a1 a2 a3 a4 a5 k
 have ih0 := standbyref56_Size.mono_l k
 unfold standbyref56_Size.f
 repeat' first
   | (with_reducible exact ih0 _ _ _ _ _ _ _ _)
   | (with_reducible exact LeO.refl _)
   | (with_reducible exact LeO.none _)
   | (with_reducible refine LeO.ite ?_ ?_)
   | (with_reducible refine LeO.bind ?_ (fun _ => ?_))
   | exact ih0 _ _ _ _ _ _ _ _
   | exact LeO.none _
   | refine LeO.ite ?_ ?_
   | refine LeO.bind ?_ (fun _ => ?_)
set_option maxHeartbeats 8000000 in
set_option maxRecDepth 100000 in
theorem standbyref56_Size.calls (k : Nat) (aI : Option Addr) (aJ : Nat) (aC : List Int) (aK : Option Addr) (aL : Nat) (aF : List Int) (aD : Int) (aG : Int) (aH : Int) (a1 : Int) (r : Int) (w : World) (aR : Kd.C (Kd.int .i64) w aI aC.length aC) (aS : aC.length ≤ aJ) (aT : Kd.C (Kd.int .i64) w aK aF.length aF) (aU : aF.length ≤ aL) (h : standbyref56_Size.f k aC aF aD aG aH a1 = some r) :
  Calls Try.prog 39 #[.agg #[.slice aI aC.length aJ, .slice aK aF.length aL, .int .i64 aD, .int .i64 aG, .int .i64 aH], .int .i64 a1] w fun e w' => e = .returned (.int .i64 r) ∧ Below w.heap.size w w' := by
 have hu24 := Try.underlying24
 have aY := Aside0.mk aR
 have bL := Aside0.mk aS
 clear aR aS
 have bM := Aside0.mk aT
 have bN := Aside0.mk aU
 clear aT aU
 have HB := Aside0.mk (Below.refl w.heap.size w)
 have H : (standbyref56_Size.l0 k a1 0 (wrap64 (a1 * aD)) aC aF aD aG aH) = some r := h
 clear h
 have H' := Aside0.mk H
 clear H
 go_enter Try.func39, Try.ntmps39
 go_wp2_with (first | ((with_reducible refine gate_dst (N := 2) rfl ?_); (try (refine gate_guard (by rfl) ?_; dsimp only)); refine box_event ?hg (N := 2) ?hd (cs := #[.slice aI aC.length aJ, .slice aK aF.length aL, .int .i64 aD, .int .i64 aG, .int .i64 aH]) (t := 24) ?hr ?_; (case hd => rfl); (case hg => rfl); (case hr => first | (go_simp; done) | (go_simp; rfl)); intro aB hg w3 hbox hb; have n0_ := Aside0.mk (below_step (qW HB.out) hb); have n1_ := Aside0.mk (hbox); have n2_ := Aside0.mk ((by rw [hg]; exact (below_size (qW HB.out)) : w.heap.size ≤ aB)); have n3_ := Aside0.mk ((by rw [hg]; exact (below_size (qW HB.out)) : w.heap.size ≤ aB)); clear HB; have HB := n0_; have aA := n1_; have bO := n2_; have aM := n3_; clear n0_ n1_ n2_ n3_ hb hbox hg; have aZ : w3.cell? ⟨aB, 0, none⟩ = some (.slice aI aC.length aJ) := (blk_cell aA.out 0).trans rfl; have bA : w3.cell? ⟨aB, 1, none⟩ = some (.slice aK aF.length aL) := (blk_cell aA.out 1).trans rfl; have bB : w3.cell? ⟨aB, 2, none⟩ = some (.int .i64 aD) := (blk_cell aA.out 2).trans rfl; have bC : w3.cell? ⟨aB, 3, none⟩ = some (.int .i64 aG) := (blk_cell aA.out 3).trans rfl; have bD : w3.cell? ⟨aB, 4, none⟩ = some (.int .i64 aH) := (blk_cell aA.out 4).trans rfl; have bE := blk_frozen aA.out 0; have bF := blk_frozen aA.out 1; have bG := blk_frozen aA.out 2; have bH := blk_frozen aA.out 3; have bI := blk_frozen aA.out 4))
 go_loopg [5, 6] k (fun kq v5 v6 w' => ∃ (aN : Int) (aE : Int), v5 = .int .i64 aN ∧ v6 = .int .i64 aE ∧ Aside0 (standbyref56_Size.l0 kq a1 aN aE aC aF aD aG aH = some r) ∧ Aside0 (kq ≤ k) ∧ Aside0 (w'.heap[aB]? = some (.cells #[(.slice aI aC.length aJ), (.slice aK aF.length aL), .int .i64 aD, .int .i64 aG, .int .i64 aH] 24 (0, 0))) ∧ Aside0 (Below w.heap.size w w'))
 case atStart => exact ⟨(0), (wrap64 (a1 * aD)), (by first | rfl | (simp; done) | (simp [*]; done)), (by first | rfl | (simp; done) | (simp [*]; done)), H', ⟨Nat.le_refl _⟩, ⟨by exact qB aA.out⟩, ⟨by repeat (first | (with_reducible first | exact HB.out | apply below_alloc | apply pw_below_drewN | apply below_drew1 | refine below_set ?_ aM.out) | exact HB.out)⟩⟩
 case round =>
  clear H'
  try clear p2
  try clear c3
  try clear aZ
  try clear bA
  try clear bB
  try clear bC
  try clear bD
  try clear bE
  try clear bF
  try clear bG
  try clear bH
  try clear bI
  obtain ⟨aN, aE, rfl, rfl, HA, HK1, aA, HB⟩ := hrel
  cases gk with
  | zero => exact absurd HA.out (by simp [standbyref56_Size.l0])
  | succ k1 =>
   have H := HA.out
   clear HA
   simp only [standbyref56_Size.l0] at H
   by_cases c5 : aE < (wrap64 ((wrap64 (a1 + 1)) * aD))
   case neg =>
    rw [if_neg c5] at H
    have bJ : decide (aE < (wrap64 ((wrap64 (a1 + 1)) * aD))) = false := decide_eq_false c5
    clear c5
    obtain rfl := Option.some.inj H
    have bP : wr.cell? ⟨aB, 0, none⟩ = some (.slice aI aC.length aJ) := (blk_cell aA.out 0).trans rfl
    have bQ : wr.cell? ⟨aB, 1, none⟩ = some (.slice aK aF.length aL) := (blk_cell aA.out 1).trans rfl
    have bR : wr.cell? ⟨aB, 2, none⟩ = some (.int .i64 aD) := (blk_cell aA.out 2).trans rfl
    have bS : wr.cell? ⟨aB, 3, none⟩ = some (.int .i64 aG) := (blk_cell aA.out 3).trans rfl
    have bT : wr.cell? ⟨aB, 4, none⟩ = some (.int .i64 aH) := (blk_cell aA.out 4).trans rfl
    have bU := blk_frozen aA.out 0
    have bV := blk_frozen aA.out 1
    have bW := blk_frozen aA.out 2
    have bX := blk_frozen aA.out 3
    have bY := blk_frozen aA.out 4
    go_wp2
    go_ret
    exact ⟨by first | rfl | (simp [errW_none, errW_some] <;> rfl) | (simp [*, errW_none, errW_some] <;> rfl), by repeat (first | (with_reducible first | exact HB.out | apply below_alloc | apply pw_below_drewN | apply below_drew1 | refine below_set ?_ aM.out) | exact HB.out)⟩

   rw [if_pos c5] at H
   have bJ : decide (aE < (wrap64 ((wrap64 (a1 + 1)) * aD))) = true := decide_eq_true c5
   clear c5
   by_cases c6 : aE < (aC.length : Int)
   case neg =>
    rw [if_neg c6] at H
    have bK : decide (aE < (aC.length : Int)) = false := decide_eq_false c6
    clear c6
    obtain rfl := Option.some.inj H
    have bZ : wr.cell? ⟨aB, 0, none⟩ = some (.slice aI aC.length aJ) := (blk_cell aA.out 0).trans rfl
    have cA : wr.cell? ⟨aB, 1, none⟩ = some (.slice aK aF.length aL) := (blk_cell aA.out 1).trans rfl
    have cB : wr.cell? ⟨aB, 2, none⟩ = some (.int .i64 aD) := (blk_cell aA.out 2).trans rfl
    have cC : wr.cell? ⟨aB, 3, none⟩ = some (.int .i64 aG) := (blk_cell aA.out 3).trans rfl
    have cD : wr.cell? ⟨aB, 4, none⟩ = some (.int .i64 aH) := (blk_cell aA.out 4).trans rfl
    have cE := blk_frozen aA.out 0
    have cF := blk_frozen aA.out 1
    have cG := blk_frozen aA.out 2
    have cH := blk_frozen aA.out 3
    have cI := blk_frozen aA.out 4
    go_wp2
    go_ret
    exact ⟨by first | rfl | (simp [errW_none, errW_some] <;> rfl) | (simp [*, errW_none, errW_some] <;> rfl), by repeat (first | (with_reducible first | exact HB.out | apply below_alloc | apply pw_below_drewN | apply below_drew1 | refine below_set ?_ aM.out) | exact HB.out)⟩
   rw [if_pos c6] at H
   have bK : decide (aE < (aC.length : Int)) = true := decide_eq_true c6
   clear c6
   by_cases c7 : 0 ≤ aE
   case neg =>
    rw [if_neg c7] at H
    exact absurd H (by simp)
   rw [if_pos c7] at H
   have cJ : decide (0 ≤ aE) = true := decide_eq_true c7
   clear c7
   have H' := Aside0.mk H
   clear H
   have cK : wr.cell? ⟨aB, 0, none⟩ = some (.slice aI aC.length aJ) := (blk_cell aA.out 0).trans rfl
   have cL : wr.cell? ⟨aB, 1, none⟩ = some (.slice aK aF.length aL) := (blk_cell aA.out 1).trans rfl
   have cM : wr.cell? ⟨aB, 2, none⟩ = some (.int .i64 aD) := (blk_cell aA.out 2).trans rfl
   have cN : wr.cell? ⟨aB, 3, none⟩ = some (.int .i64 aG) := (blk_cell aA.out 3).trans rfl
   have cO : wr.cell? ⟨aB, 4, none⟩ = some (.int .i64 aH) := (blk_cell aA.out 4).trans rfl
   have cP := blk_frozen aA.out 0
   have cQ := blk_frozen aA.out 1
   have cR := blk_frozen aA.out 2
   have cS := blk_frozen aA.out 3
   have cT := blk_frozen aA.out 4
   have p181 : 0 ≤ (aE : Int) := of_decide_eq_true (by first | (with_reducible assumption) | assumption)
   have q181 : aE < (aC.length : Int) := of_decide_eq_true (by first | (with_reducible assumption) | assumption)
   obtain ⟨ad181, e181, aP⟩ := Kd.at_int aY.out aE p181 q181
   cases e181
   replace aP := (HB.out.cell (World.block_lt_of_cell? w _ aP)).trans aP
   replace p181 := eq_true p181
   replace q181 := eq_true q181
   go_wp2
   go_roundg k1
   case measure => have := HK1.out; omega
   case rel => exact ⟨(wrap64 (aN + (rd aC aE))), (wrap64 (aE + 1)), (by first | rfl | (simp; done) | (simp [*]; done)), (by first | rfl | (simp; done) | (simp [*]; done)), H', ⟨by have := HK1.out; omega⟩, ⟨by exact qB aA.out⟩, ⟨by repeat (first | (with_reducible first | exact HB.out | apply below_alloc | apply pw_below_drewN | apply below_drew1 | refine below_set ?_ aM.out) | exact HB.out)⟩⟩
end Go.Proofs.Ytcflacjidabppaa.Pr

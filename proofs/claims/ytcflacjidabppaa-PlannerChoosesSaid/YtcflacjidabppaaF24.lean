-- Written by pp.py, a program of this session, over the translation of the given program; a machine's text: Lean checks it.
import Derived.Test.YtcflacjidabppaaGShort
namespace Go.Proofs.Ytcflacjidabppaa.Pr
open Go.RowKit Go.Proofs.YtcflacjidabppaaW.PrintWords Go.Proofs.YtcflacjidabppaaW.PrintLast Go.Proofs.YtcflacjidabppaaW.PrintMore
attribute [local go_sem] max2_int min2_int max_two min_two max_three min_three max_four min_four   -- for this text's walks alone
set_option linter.unusedVariables false
set_option linter.unusedSimpArgs false

/-! ### standbylaw56_capacity: function 24 -/
def standbylaw56_capacity.f (aC : List Int) (aA : List Int) (aE : Int) (aF : Int) (aG : Int) (a1 : Int) : Option (Int) := if 0 ≤ (mn a1 (wrap64 ((aA.length : Int) - 1))) then (if (mn a1 (wrap64 ((aA.length : Int) - 1))) < (aA.length : Int) then (some (rd aA (mn a1 (wrap64 ((aA.length : Int) - 1))))) else (none)) else (none)
set_option maxHeartbeats 8000000 in
set_option maxRecDepth 100000 in
theorem standbylaw56_capacity.calls (aH : Option Addr) (aI : Nat) (aC : List Int) (aJ : Option Addr) (aK : Nat) (aA : List Int) (aE : Int) (aF : Int) (aG : Int) (a1 : Int) (r : Int) (w : World) (aN : Kd.C (Kd.int .i64) w aH aC.length aC) (aO : aC.length ≤ aI) (aP : Kd.C (Kd.int .i64) w aJ aA.length aA) (aQ : aA.length ≤ aK) (h : standbylaw56_capacity.f aC aA aE aF aG a1 = some r) :
  Calls Try.prog 24 #[.agg #[.slice aH aC.length aI, .slice aJ aA.length aK, .int .i64 aE, .int .i64 aF, .int .i64 aG], .int .i64 a1] w fun e w' => e = .returned (.int .i64 r) ∧ Below w.heap.size w w' := by
 have hu24 := Try.underlying24
 have aT := Aside0.mk aN
 have aU := Aside0.mk aO
 clear aN aO
 have aR := Aside0.mk aP
 have aV := Aside0.mk aQ
 clear aP aQ
 have HB := Aside0.mk (Below.refl w.heap.size w)
 have H : (if 0 ≤ (mn a1 (wrap64 ((aA.length : Int) - 1))) then (if (mn a1 (wrap64 ((aA.length : Int) - 1))) < (aA.length : Int) then (some (rd aA (mn a1 (wrap64 ((aA.length : Int) - 1))))) else (none)) else (none)) = some r := h
 clear h
 obtain ⟨ji3, aL⟩ : ∃ j_ : Int, (mn a1 (wrap64 ((aA.length : Int) - 1))) = j_ := ⟨_, rfl⟩
 replace H : (if 0 ≤ (ji3) then (if (ji3) < (aA.length : Int) then (some (rd aA (ji3))) else (none)) else (none)) = some r := by first | (rw [aL] at H; exact H) | (simp only [aL] at H ⊢; exact H)
 have aW : (if (wrap64 ((aA.length : Int) - 1)) < a1 then (wrap64 ((aA.length : Int) - 1)) else a1) = ji3 := aL
 by_cases c4 : 0 ≤ (ji3)
 case neg =>
  rw [if_neg c4] at H
  exact absurd H (by simp)

 rw [if_pos c4] at H
 have aX : decide (0 ≤ (ji3)) = true := decide_eq_true c4
 clear c4
 by_cases c5 : (ji3) < (aA.length : Int)
 ·rw [if_pos c5] at H
  have aY : decide ((ji3) < (aA.length : Int)) = true := decide_eq_true c5
  clear c5
  obtain rfl := Option.some.inj H
  go_enter Try.func24, Try.ntmps24
  go_wp2_with (first | ((with_reducible refine gate_dst (N := 2) rfl ?_); refine box_event ?hg (N := 2) ?hd (cs := #[.slice aH aC.length aI, .slice aJ aA.length aK, .int .i64 aE, .int .i64 aF, .int .i64 aG]) (t := 24) ?hr ?_; (case hd => rfl); (case hg => rfl); (case hr => first | (go_simp; done) | (go_simp; rfl)); intro aD hg w6 hbox hb; have n0_ := Aside0.mk (below_step (qW HB.out) hb); have n1_ := Aside0.mk (hbox); have n2_ := Aside0.mk ((by rw [hg]; exact (below_size (qW HB.out)) : w.heap.size ≤ aD)); have n3_ := Aside0.mk ((by rw [hg]; exact (below_size (qW HB.out)) : w.heap.size ≤ aD)); clear HB; have HB := n0_; have aB := n1_; have aZ := n2_; have aS := n3_; clear n0_ n1_ n2_ n3_ hb hbox hg; have bA : w6.cell? ⟨aD, 0, none⟩ = some (.slice aH aC.length aI) := (blk_cell aB.out 0).trans rfl; have bB : w6.cell? ⟨aD, 1, none⟩ = some (.slice aJ aA.length aK) := (blk_cell aB.out 1).trans rfl; have bC : w6.cell? ⟨aD, 2, none⟩ = some (.int .i64 aE) := (blk_cell aB.out 2).trans rfl; have bD : w6.cell? ⟨aD, 3, none⟩ = some (.int .i64 aF) := (blk_cell aB.out 3).trans rfl; have bE : w6.cell? ⟨aD, 4, none⟩ = some (.int .i64 aG) := (blk_cell aB.out 4).trans rfl; have bF := blk_frozen aB.out 0; have bG := blk_frozen aB.out 1; have bH := blk_frozen aB.out 2; have bI := blk_frozen aB.out 3; have bJ := blk_frozen aB.out 4; have p289 : 0 ≤ ((ji3) : Int) := of_decide_eq_true (by first | (with_reducible assumption) | assumption); have q289 : (ji3) < (aA.length : Int) := of_decide_eq_true (by first | (with_reducible assumption) | assumption); obtain ⟨ad289, e289, aM⟩ := Kd.at_int aR.out (ji3) p289 q289; cases e289; replace aM := (HB.out.cell (World.block_lt_of_cell? w _ aM)).trans aM; replace p289 := eq_true p289; replace q289 := eq_true q289))
  go_ret
  exact ⟨by first | rfl | (simp [errW_none, errW_some] <;> rfl) | (simp only [← aL]; first | rfl | (simp [errW_none, errW_some] <;> rfl)) | (simp [*, errW_none, errW_some] <;> rfl), by repeat (first | (with_reducible first | exact HB.out | apply below_alloc | apply pw_below_drewN | apply below_drew1 | refine below_set ?_ aS.out) | exact HB.out)⟩
 ·rw [if_neg c5] at H
  exact absurd H (by simp)
end Go.Proofs.Ytcflacjidabppaa.Pr

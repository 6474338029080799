-- Written by pp.py, a program of this session, over the translation of the given program; a machine's text: Lean checks it.
import Derived.Test.YtcflacjidabppaaGShort
namespace Go.Proofs.Ytcflacjidabppaa.Pr
open Go.RowKit Go.Proofs.YtcflacjidabppaaW.PrintWords Go.Proofs.YtcflacjidabppaaW.PrintLast Go.Proofs.YtcflacjidabppaaW.PrintMore
attribute [local go_sem] max2_int min2_int max_two min_two max_three min_three max_four min_four   -- for this text's walks alone
set_option linter.unusedVariables false
set_option linter.unusedSimpArgs false

/-! ### standbylaw56_capacity: function 24 -/
def standbylaw56_capacity.f (l0_0 : List Int) (l0_1 : List Int) (a0_2 : Int) (a0_3 : Int) (a0_4 : Int) (a1 : Int) : Option (Int) := if 0 ≤ (mn a1 (wrap64 ((l0_1.length : Int) - 1))) then (if (mn a1 (wrap64 ((l0_1.length : Int) - 1))) < (l0_1.length : Int) then (some (rd l0_1 (mn a1 (wrap64 ((l0_1.length : Int) - 1))))) else (none)) else (none)
set_option maxHeartbeats 8000000 in
set_option maxRecDepth 100000 in
theorem standbylaw56_capacity.calls (A0_0 : Option Addr) (c0_0 : Nat) (l0_0 : List Int) (A0_1 : Option Addr) (c0_1 : Nat) (l0_1 : List Int) (a0_2 : Int) (a0_3 : Int) (a0_4 : Int) (a1 : Int) (r : Int) (w : World) (hr0_0 : Kd.C (Kd.int .i64) w A0_0 l0_0.length l0_0) (hc0_0 : l0_0.length ≤ c0_0) (hr0_1 : Kd.C (Kd.int .i64) w A0_1 l0_1.length l0_1) (hc0_1 : l0_1.length ≤ c0_1) (h : standbylaw56_capacity.f l0_0 l0_1 a0_2 a0_3 a0_4 a1 = some r) :
  Calls Try.prog 24 #[.agg #[.slice A0_0 l0_0.length c0_0, .slice A0_1 l0_1.length c0_1, .int .i64 a0_2, .int .i64 a0_3, .int .i64 a0_4], .int .i64 a1] w fun e w' => e = .returned (.int .i64 r) ∧ Below w.heap.size w w' := by
 have hu24 := Try.underlying24
 have HR0_0 := Aside0.mk hr0_0
 have HC0_0 := Aside0.mk hc0_0
 clear hr0_0 hc0_0
 have HR0_1 := Aside0.mk hr0_1
 have HC0_1 := Aside0.mk hc0_1
 clear hr0_1 hc0_1
 have HB := Aside0.mk (Below.refl w.heap.size w)
 have H : (if 0 ≤ (mn a1 (wrap64 ((l0_1.length : Int) - 1))) then (if (mn a1 (wrap64 ((l0_1.length : Int) - 1))) < (l0_1.length : Int) then (some (rd l0_1 (mn a1 (wrap64 ((l0_1.length : Int) - 1))))) else (none)) else (none)) = some r := h
 clear h
 obtain ⟨ji3, hji3⟩ : ∃ j_ : Int, (mn a1 (wrap64 ((l0_1.length : Int) - 1))) = j_ := ⟨_, rfl⟩
 replace H : (if 0 ≤ (ji3) then (if (ji3) < (l0_1.length : Int) then (some (rd l0_1 (ji3))) else (none)) else (none)) = some r := by first | (rw [hji3] at H; exact H) | (simp only [hji3] at H ⊢; exact H)
 have hji3_ : (if (wrap64 ((l0_1.length : Int) - 1)) < a1 then (wrap64 ((l0_1.length : Int) - 1)) else a1) = ji3 := hji3
 by_cases c4 : 0 ≤ (ji3)
 case neg =>
  rw [if_neg c4] at H
  exact absurd H (by simp)

 rw [if_pos c4] at H
 have c4b0 : decide (0 ≤ (ji3)) = true := decide_eq_true c4
 clear c4
 by_cases c5 : (ji3) < (l0_1.length : Int)
 ·rw [if_pos c5] at H
  have c5b0 : decide ((ji3) < (l0_1.length : Int)) = true := decide_eq_true c5
  clear c5
  obtain rfl := Option.some.inj H
  go_enter Try.func24, Try.ntmps24
  go_wp2_with (first | ((with_reducible refine gate_dst (N := 2) rfl ?_); refine box_event ?hg (N := 2) ?hd (cs := #[.slice A0_0 l0_0.length c0_0, .slice A0_1 l0_1.length c0_1, .int .i64 a0_2, .int .i64 a0_3, .int .i64 a0_4]) (t := 24) ?hr ?_; (case hd => rfl); (case hg => rfl); (case hr => first | (go_simp; done) | (go_simp; rfl)); intro gb287 hg w6 hbox hb; have n0_ := Aside0.mk (below_step (qW HB.out) hb); have n1_ := Aside0.mk (hbox); have n2_ := Aside0.mk ((by rw [hg]; exact (below_size (qW HB.out)) : w.heap.size ≤ gb287)); have n3_ := Aside0.mk ((by rw [hg]; exact (below_size (qW HB.out)) : w.heap.size ≤ gb287)); clear HB; have HB := n0_; have BK287 := n1_; have GW287 := n2_; have GE287 := n3_; clear n0_ n1_ n2_ n3_ hb hbox hg; have hcz7_0 : w6.cell? ⟨gb287, 0, none⟩ = some (.slice A0_0 l0_0.length c0_0) := (blk_cell BK287.out 0).trans rfl; have hcz7_1 : w6.cell? ⟨gb287, 1, none⟩ = some (.slice A0_1 l0_1.length c0_1) := (blk_cell BK287.out 1).trans rfl; have hcz7_2 : w6.cell? ⟨gb287, 2, none⟩ = some (.int .i64 a0_2) := (blk_cell BK287.out 2).trans rfl; have hcz7_3 : w6.cell? ⟨gb287, 3, none⟩ = some (.int .i64 a0_3) := (blk_cell BK287.out 3).trans rfl; have hcz7_4 : w6.cell? ⟨gb287, 4, none⟩ = some (.int .i64 a0_4) := (blk_cell BK287.out 4).trans rfl; have hfz7_0 := blk_frozen BK287.out 0; have hfz7_1 := blk_frozen BK287.out 1; have hfz7_2 := blk_frozen BK287.out 2; have hfz7_3 := blk_frozen BK287.out 3; have hfz7_4 := blk_frozen BK287.out 4; have p288 : 0 ≤ ((ji3) : Int) := of_decide_eq_true (by first | (with_reducible assumption) | assumption); have q288 : (ji3) < (l0_1.length : Int) := of_decide_eq_true (by first | (with_reducible assumption) | assumption); obtain ⟨ad288, e288, hx288_0⟩ := Kd.at_int HR0_1.out (ji3) p288 q288; cases e288; replace hx288_0 := (HB.out.cell (World.block_lt_of_cell? w _ hx288_0)).trans hx288_0; replace p288 := eq_true p288; replace q288 := eq_true q288))
  go_ret
  exact ⟨by first | rfl | (simp [errW_none, errW_some] <;> rfl) | (simp only [← hji3]; first | rfl | (simp [errW_none, errW_some] <;> rfl)) | (simp [*, errW_none, errW_some] <;> rfl), by repeat (first | (with_reducible first | exact HB.out | apply below_alloc | apply pw_below_drewN | apply below_drew1 | refine below_set ?_ GE287.out) | exact HB.out)⟩
 ·rw [if_neg c5] at H
  exact absurd H (by simp)
end Go.Proofs.Ytcflacjidabppaa.Pr

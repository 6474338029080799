-- Written by pp.py, a program of this session, over the translation of the given program; a machine's text: Lean checks it.
import Derived.Test.YtcflacjidabppaaGShort
namespace Go.Proofs.Ytcflacjidabppaa.Pr
open Go.RowKit Go.Proofs.YtcflacjidabppaaW.PrintWords Go.Proofs.YtcflacjidabppaaW.PrintLast Go.Proofs.YtcflacjidabppaaW.PrintMore
attribute [local go_sem] max2_int min2_int max_two min_two max_three min_three max_four min_four   -- for this text's walks alone
set_option linter.unusedVariables false
set_option linter.unusedSimpArgs false

/-! ### standbylaw56_fewPlan: function 18 -/
def standbylaw56_fewPlan.f (l0_0 : List Int) (l0_1 : List Int) (l0_2 : List Int) (l0_3 : List Int) (a0_4 : Int) : Option (Bool) := if (l0_0.length : Int) ≤ 50 then (if (l0_1.length : Int) ≤ 50 then (if (l0_2.length : Int) ≤ 50 then (some (decide ((l0_3.length : Int) ≤ 50))) else (some false)) else (some false)) else (some false)
set_option maxHeartbeats 8000000 in
set_option maxRecDepth 100000 in
theorem standbylaw56_fewPlan.calls (A0_0 : Option Addr) (c0_0 : Nat) (l0_0 : List Int) (A0_1 : Option Addr) (c0_1 : Nat) (l0_1 : List Int) (A0_2 : Option Addr) (c0_2 : Nat) (l0_2 : List Int) (A0_3 : Option Addr) (c0_3 : Nat) (l0_3 : List Int) (a0_4 : Int) (r : Bool) (w : World) (hr0_0 : Kd.C (Kd.int .i64) w A0_0 l0_0.length l0_0) (hc0_0 : l0_0.length ≤ c0_0) (hr0_1 : Kd.C (Kd.int .i64) w A0_1 l0_1.length l0_1) (hc0_1 : l0_1.length ≤ c0_1) (hr0_2 : Kd.C (Kd.int .i64) w A0_2 l0_2.length l0_2) (hc0_2 : l0_2.length ≤ c0_2) (hr0_3 : Kd.C (Kd.int .i64) w A0_3 l0_3.length l0_3) (hc0_3 : l0_3.length ≤ c0_3) (h : standbylaw56_fewPlan.f l0_0 l0_1 l0_2 l0_3 a0_4 = some r) :
  Calls Try.prog 18 #[.agg #[.slice A0_0 l0_0.length c0_0, .slice A0_1 l0_1.length c0_1, .slice A0_2 l0_2.length c0_2, .slice A0_3 l0_3.length c0_3, .int .i64 a0_4]] w fun e w' => e = .returned (.bool r) ∧ Below w.heap.size w w' := by
 have hu28 := Try.underlying28
 have HR0_0 := Aside0.mk hr0_0
 have HC0_0 := Aside0.mk hc0_0
 clear hr0_0 hc0_0
 have HR0_1 := Aside0.mk hr0_1
 have HC0_1 := Aside0.mk hc0_1
 clear hr0_1 hc0_1
 have HR0_2 := Aside0.mk hr0_2
 have HC0_2 := Aside0.mk hc0_2
 clear hr0_2 hc0_2
 have HR0_3 := Aside0.mk hr0_3
 have HC0_3 := Aside0.mk hc0_3
 clear hr0_3 hc0_3
 have HB := Aside0.mk (Below.refl w.heap.size w)
 have H : (if (l0_0.length : Int) ≤ 50 then (if (l0_1.length : Int) ≤ 50 then (if (l0_2.length : Int) ≤ 50 then (some (decide ((l0_3.length : Int) ≤ 50))) else (some false)) else (some false)) else (some false)) = some r := h
 clear h
 by_cases c2 : (l0_0.length : Int) ≤ 50
 case neg =>
  rw [if_neg c2] at H
  have c2b0 : decide ((l0_0.length : Int) ≤ 50) = false := decide_eq_false c2
  have c2b1 : decide (l0_0.length ≤ 50) = false := decide_eq_false (by omega)
  clear c2
  obtain rfl := Option.some.inj H
  go_enter Try.func18, Try.ntmps18
  go_wp2_with (first | ((with_reducible refine gate_dst (N := 1) rfl ?_); (try (refine gate_guard (by rfl) ?_; dsimp only)); refine box_event ?hg (N := 1) ?hd (cs := #[.slice A0_0 l0_0.length c0_0, .slice A0_1 l0_1.length c0_1, .slice A0_2 l0_2.length c0_2, .slice A0_3 l0_3.length c0_3, .int .i64 a0_4]) (t := 28) ?hr ?_; (case hd => rfl); (case hg => rfl); (case hr => first | (go_simp; done) | (go_simp; rfl)); intro gb251 hg w11 hbox hb; have n0_ := Aside0.mk (below_step (qW HB.out) hb); have n1_ := Aside0.mk (hbox); have n2_ := Aside0.mk ((by rw [hg]; exact (below_size (qW HB.out)) : w.heap.size ≤ gb251)); have n3_ := Aside0.mk ((by rw [hg]; exact (below_size (qW HB.out)) : w.heap.size ≤ gb251)); clear HB; have HB := n0_; have BK251 := n1_; have GW251 := n2_; have GE251 := n3_; clear n0_ n1_ n2_ n3_ hb hbox hg; have hcz12_0 : w11.cell? ⟨gb251, 0, none⟩ = some (.slice A0_0 l0_0.length c0_0) := (blk_cell BK251.out 0).trans rfl; have hcz12_1 : w11.cell? ⟨gb251, 1, none⟩ = some (.slice A0_1 l0_1.length c0_1) := (blk_cell BK251.out 1).trans rfl; have hcz12_2 : w11.cell? ⟨gb251, 2, none⟩ = some (.slice A0_2 l0_2.length c0_2) := (blk_cell BK251.out 2).trans rfl; have hcz12_3 : w11.cell? ⟨gb251, 3, none⟩ = some (.slice A0_3 l0_3.length c0_3) := (blk_cell BK251.out 3).trans rfl; have hcz12_4 : w11.cell? ⟨gb251, 4, none⟩ = some (.int .i64 a0_4) := (blk_cell BK251.out 4).trans rfl; have hfz12_0 := blk_frozen BK251.out 0; have hfz12_1 := blk_frozen BK251.out 1; have hfz12_2 := blk_frozen BK251.out 2; have hfz12_3 := blk_frozen BK251.out 3; have hfz12_4 := blk_frozen BK251.out 4))
  go_ret
  exact ⟨by first | rfl | (simp [errW_none, errW_some] <;> rfl) | (simp [*, errW_none, errW_some] <;> rfl), by repeat (first | (with_reducible first | exact HB.out | apply below_alloc | apply pw_below_drewN | apply below_drew1 | refine below_set ?_ GE251.out) | exact HB.out)⟩

 rw [if_pos c2] at H
 have c2b0 : decide ((l0_0.length : Int) ≤ 50) = true := decide_eq_true c2
 have c2b1 : decide (l0_0.length ≤ 50) = true := decide_eq_true (by omega)
 clear c2
 by_cases c3 : (l0_1.length : Int) ≤ 50
 case neg =>
  rw [if_neg c3] at H
  have c3b0 : decide ((l0_1.length : Int) ≤ 50) = false := decide_eq_false c3
  have c3b1 : decide (l0_1.length ≤ 50) = false := decide_eq_false (by omega)
  clear c3
  obtain rfl := Option.some.inj H
  go_enter Try.func18, Try.ntmps18
  go_wp2_with (first | ((with_reducible refine gate_dst (N := 1) rfl ?_); (try (refine gate_guard (by rfl) ?_; dsimp only)); refine box_event ?hg (N := 1) ?hd (cs := #[.slice A0_0 l0_0.length c0_0, .slice A0_1 l0_1.length c0_1, .slice A0_2 l0_2.length c0_2, .slice A0_3 l0_3.length c0_3, .int .i64 a0_4]) (t := 28) ?hr ?_; (case hd => rfl); (case hg => rfl); (case hr => first | (go_simp; done) | (go_simp; rfl)); intro gb251 hg w9 hbox hb; have n0_ := Aside0.mk (below_step (qW HB.out) hb); have n1_ := Aside0.mk (hbox); have n2_ := Aside0.mk ((by rw [hg]; exact (below_size (qW HB.out)) : w.heap.size ≤ gb251)); have n3_ := Aside0.mk ((by rw [hg]; exact (below_size (qW HB.out)) : w.heap.size ≤ gb251)); clear HB; have HB := n0_; have BK251 := n1_; have GW251 := n2_; have GE251 := n3_; clear n0_ n1_ n2_ n3_ hb hbox hg; have hcz10_0 : w9.cell? ⟨gb251, 0, none⟩ = some (.slice A0_0 l0_0.length c0_0) := (blk_cell BK251.out 0).trans rfl; have hcz10_1 : w9.cell? ⟨gb251, 1, none⟩ = some (.slice A0_1 l0_1.length c0_1) := (blk_cell BK251.out 1).trans rfl; have hcz10_2 : w9.cell? ⟨gb251, 2, none⟩ = some (.slice A0_2 l0_2.length c0_2) := (blk_cell BK251.out 2).trans rfl; have hcz10_3 : w9.cell? ⟨gb251, 3, none⟩ = some (.slice A0_3 l0_3.length c0_3) := (blk_cell BK251.out 3).trans rfl; have hcz10_4 : w9.cell? ⟨gb251, 4, none⟩ = some (.int .i64 a0_4) := (blk_cell BK251.out 4).trans rfl; have hfz10_0 := blk_frozen BK251.out 0; have hfz10_1 := blk_frozen BK251.out 1; have hfz10_2 := blk_frozen BK251.out 2; have hfz10_3 := blk_frozen BK251.out 3; have hfz10_4 := blk_frozen BK251.out 4))
  go_ret
  exact ⟨by first | rfl | (simp [errW_none, errW_some] <;> rfl) | (simp [*, errW_none, errW_some] <;> rfl), by repeat (first | (with_reducible first | exact HB.out | apply below_alloc | apply pw_below_drewN | apply below_drew1 | refine below_set ?_ GE251.out) | exact HB.out)⟩
 rw [if_pos c3] at H
 have c3b0 : decide ((l0_1.length : Int) ≤ 50) = true := decide_eq_true c3
 have c3b1 : decide (l0_1.length ≤ 50) = true := decide_eq_true (by omega)
 clear c3
 by_cases c4 : (l0_2.length : Int) ≤ 50
 ·rw [if_pos c4] at H
  have c4b0 : decide ((l0_2.length : Int) ≤ 50) = true := decide_eq_true c4
  have c4b1 : decide (l0_2.length ≤ 50) = true := decide_eq_true (by omega)
  clear c4
  obtain rfl := Option.some.inj H
  go_enter Try.func18, Try.ntmps18
  go_wp2_with (first | ((with_reducible refine gate_dst (N := 1) rfl ?_); (try (refine gate_guard (by rfl) ?_; dsimp only)); refine box_event ?hg (N := 1) ?hd (cs := #[.slice A0_0 l0_0.length c0_0, .slice A0_1 l0_1.length c0_1, .slice A0_2 l0_2.length c0_2, .slice A0_3 l0_3.length c0_3, .int .i64 a0_4]) (t := 28) ?hr ?_; (case hd => rfl); (case hg => rfl); (case hr => first | (go_simp; done) | (go_simp; rfl)); intro gb251 hg w5 hbox hb; have n0_ := Aside0.mk (below_step (qW HB.out) hb); have n1_ := Aside0.mk (hbox); have n2_ := Aside0.mk ((by rw [hg]; exact (below_size (qW HB.out)) : w.heap.size ≤ gb251)); have n3_ := Aside0.mk ((by rw [hg]; exact (below_size (qW HB.out)) : w.heap.size ≤ gb251)); clear HB; have HB := n0_; have BK251 := n1_; have GW251 := n2_; have GE251 := n3_; clear n0_ n1_ n2_ n3_ hb hbox hg; have hcz6_0 : w5.cell? ⟨gb251, 0, none⟩ = some (.slice A0_0 l0_0.length c0_0) := (blk_cell BK251.out 0).trans rfl; have hcz6_1 : w5.cell? ⟨gb251, 1, none⟩ = some (.slice A0_1 l0_1.length c0_1) := (blk_cell BK251.out 1).trans rfl; have hcz6_2 : w5.cell? ⟨gb251, 2, none⟩ = some (.slice A0_2 l0_2.length c0_2) := (blk_cell BK251.out 2).trans rfl; have hcz6_3 : w5.cell? ⟨gb251, 3, none⟩ = some (.slice A0_3 l0_3.length c0_3) := (blk_cell BK251.out 3).trans rfl; have hcz6_4 : w5.cell? ⟨gb251, 4, none⟩ = some (.int .i64 a0_4) := (blk_cell BK251.out 4).trans rfl; have hfz6_0 := blk_frozen BK251.out 0; have hfz6_1 := blk_frozen BK251.out 1; have hfz6_2 := blk_frozen BK251.out 2; have hfz6_3 := blk_frozen BK251.out 3; have hfz6_4 := blk_frozen BK251.out 4))
  go_ret
  exact ⟨by first | rfl | (simp [errW_none, errW_some] <;> rfl) | (simp [*, errW_none, errW_some] <;> rfl), by repeat (first | (with_reducible first | exact HB.out | apply below_alloc | apply pw_below_drewN | apply below_drew1 | refine below_set ?_ GE251.out) | exact HB.out)⟩
 ·rw [if_neg c4] at H
  have c4b0 : decide ((l0_2.length : Int) ≤ 50) = false := decide_eq_false c4
  have c4b1 : decide (l0_2.length ≤ 50) = false := decide_eq_false (by omega)
  clear c4
  obtain rfl := Option.some.inj H
  go_enter Try.func18, Try.ntmps18
  go_wp2_with (first | ((with_reducible refine gate_dst (N := 1) rfl ?_); (try (refine gate_guard (by rfl) ?_; dsimp only)); refine box_event ?hg (N := 1) ?hd (cs := #[.slice A0_0 l0_0.length c0_0, .slice A0_1 l0_1.length c0_1, .slice A0_2 l0_2.length c0_2, .slice A0_3 l0_3.length c0_3, .int .i64 a0_4]) (t := 28) ?hr ?_; (case hd => rfl); (case hg => rfl); (case hr => first | (go_simp; done) | (go_simp; rfl)); intro gb251 hg w7 hbox hb; have n0_ := Aside0.mk (below_step (qW HB.out) hb); have n1_ := Aside0.mk (hbox); have n2_ := Aside0.mk ((by rw [hg]; exact (below_size (qW HB.out)) : w.heap.size ≤ gb251)); have n3_ := Aside0.mk ((by rw [hg]; exact (below_size (qW HB.out)) : w.heap.size ≤ gb251)); clear HB; have HB := n0_; have BK251 := n1_; have GW251 := n2_; have GE251 := n3_; clear n0_ n1_ n2_ n3_ hb hbox hg; have hcz8_0 : w7.cell? ⟨gb251, 0, none⟩ = some (.slice A0_0 l0_0.length c0_0) := (blk_cell BK251.out 0).trans rfl; have hcz8_1 : w7.cell? ⟨gb251, 1, none⟩ = some (.slice A0_1 l0_1.length c0_1) := (blk_cell BK251.out 1).trans rfl; have hcz8_2 : w7.cell? ⟨gb251, 2, none⟩ = some (.slice A0_2 l0_2.length c0_2) := (blk_cell BK251.out 2).trans rfl; have hcz8_3 : w7.cell? ⟨gb251, 3, none⟩ = some (.slice A0_3 l0_3.length c0_3) := (blk_cell BK251.out 3).trans rfl; have hcz8_4 : w7.cell? ⟨gb251, 4, none⟩ = some (.int .i64 a0_4) := (blk_cell BK251.out 4).trans rfl; have hfz8_0 := blk_frozen BK251.out 0; have hfz8_1 := blk_frozen BK251.out 1; have hfz8_2 := blk_frozen BK251.out 2; have hfz8_3 := blk_frozen BK251.out 3; have hfz8_4 := blk_frozen BK251.out 4))
  go_ret
  exact ⟨by first | rfl | (simp [errW_none, errW_some] <;> rfl) | (simp [*, errW_none, errW_some] <;> rfl), by repeat (first | (with_reducible first | exact HB.out | apply below_alloc | apply pw_below_drewN | apply below_drew1 | refine below_set ?_ GE251.out) | exact HB.out)⟩
end Go.Proofs.Ytcflacjidabppaa.Pr

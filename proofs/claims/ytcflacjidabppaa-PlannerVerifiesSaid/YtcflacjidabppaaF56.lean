-- Written by pp.py, a program of this session, over the translation of the given program; a machine's text: Lean checks it.
import Derived.Test.YtcflacjidabppaaGShort
namespace Go.Proofs.Ytcflacjidabppaa.Pr
open Go.RowKit Go.Proofs.YtcflacjidabppaaW.PrintWords Go.Proofs.YtcflacjidabppaaW.PrintLast Go.Proofs.YtcflacjidabppaaW.PrintMore
attribute [local go_sem] max2_int min2_int max_two min_two max_three min_three max_four min_four   -- for this text's walks alone
set_option linter.unusedVariables false
set_option linter.unusedSimpArgs false

/-! ### planner_bound: function 56 -/
def planner_bound.l0 : Nat → Int → Int → List Int → Int → Int → List Int → List Int → List Int → List Int → Int → Option (Int)
 | 0, _, _, _, _, _, _, _, _, _, _ => none
 | k + 1, x3, x4, x8, x9, x10, x110000, x110001, x110002, x110003, x110004 => if x10 < x9 then (if 0 ≤ x10 then (if x10 < (x8.length : Int) then (if x10 = 0 then (if x10 < (x110000.length : Int) then (planner_bound.l0 k (mx (mx x3 (wrap64 ((wrap64 ((rd x8 x10) - 1)) - x4))) (wrap64 ((rd x8 x10) - (rd x110000 x10)))) (rd x110000 x10) x8 x9 (wrap64 (x10 + 1)) x110000 x110001 x110002 x110003 x110004) else (none)) else (if 0 ≤ (wrap64 (x10 - 1)) then (if (wrap64 (x10 - 1)) < (x110003.length : Int) then (if (rd x8 x10) > (rd x110003 (wrap64 (x10 - 1))) then (if x10 < (x110000.length : Int) then (planner_bound.l0 k (mx (mx x3 (wrap64 ((wrap64 ((rd x8 x10) - 1)) - x4))) (wrap64 ((rd x8 x10) - (rd x110000 x10)))) (rd x110000 x10) x8 x9 (wrap64 (x10 + 1)) x110000 x110001 x110002 x110003 x110004) else (none)) else (if x10 < (x110000.length : Int) then (planner_bound.l0 k (mx x3 (wrap64 ((rd x8 x10) - (rd x110000 x10)))) (rd x110000 x10) x8 x9 (wrap64 (x10 + 1)) x110000 x110001 x110002 x110003 x110004) else (none))) else (none)) else (none))) else (none)) else (none)) else (some x3)
def planner_bound.f (k : Nat) (l0_0 : List Int) (l0_1 : List Int) (l0_2 : List Int) (l0_3 : List Int) (a0_4 : Int) : Option (Int) := planner_bound.l0 k 0 0 l0_3 (l0_3.length : Int) 0 l0_0 l0_1 l0_2 l0_3 a0_4
theorem planner_bound.mono_l : ∀ k, (∀ y0 y1 y2 y3 y4 y5 y6 y7 y8 y9, LeO (planner_bound.l0 k y0 y1 y2 y3 y4 y5 y6 y7 y8 y9) (planner_bound.l0 (k + 1) y0 y1 y2 y3 y4 y5 y6 y7 y8 y9))
 | 0 => fun _ _ _ _ _ _ _ _ _ _ r h => by simp [planner_bound.l0] at h
 | k + 1 => by
  have ih0 := planner_bound.mono_l k
  ·intro y0 y1 y2 y3 y4 y5 y6 y7 y8 y9
   unfold planner_bound.l0
   repeat' first
   | (with_reducible exact ih0 _ _ _ _ _ _ _ _ _ _)
   | (with_reducible exact LeO.refl _)
   | (with_reducible exact LeO.none _)
   | (with_reducible refine LeO.ite ?_ ?_)
   | (with_reducible refine LeO.bind ?_ (fun _ => ?_))
   | exact ih0 _ _ _ _ _ _ _ _ _ _
   | exact LeO.none _
   | refine LeO.ite ?_ ?_
   | refine LeO.bind ?_ (fun _ => ?_)
theorem planner_bound.mono : ∀ a0 a1 a2 a3 a4 k, LeO (planner_bound.f k a0 a1 a2 a3 a4) (planner_bound.f (k + 1) a0 a1 a2 a3 a4) := by
 intro a0 a1 a2 a3 a4 k
 have ih0 := planner_bound.mono_l k
 unfold planner_bound.f
 repeat' first
   | (with_reducible exact ih0 _ _ _ _ _ _ _ _ _ _)
   | (with_reducible exact LeO.refl _)
   | (with_reducible exact LeO.none _)
   | (with_reducible refine LeO.ite ?_ ?_)
   | (with_reducible refine LeO.bind ?_ (fun _ => ?_))
   | exact ih0 _ _ _ _ _ _ _ _ _ _
   | exact LeO.none _
   | refine LeO.ite ?_ ?_
   | refine LeO.bind ?_ (fun _ => ?_)
set_option maxHeartbeats 8000000 in
set_option maxRecDepth 100000 in
theorem planner_bound.calls (k : Nat) (A0_0 : Option Addr) (c0_0 : Nat) (l0_0 : List Int) (A0_1 : Option Addr) (c0_1 : Nat) (l0_1 : List Int) (A0_2 : Option Addr) (c0_2 : Nat) (l0_2 : List Int) (A0_3 : Option Addr) (c0_3 : Nat) (l0_3 : List Int) (a0_4 : Int) (r : Int) (w : World) (hr0_0 : Kd.C (Kd.int .i64) w A0_0 l0_0.length l0_0) (hc0_0 : l0_0.length ≤ c0_0) (hr0_1 : Kd.C (Kd.int .i64) w A0_1 l0_1.length l0_1) (hc0_1 : l0_1.length ≤ c0_1) (hr0_2 : Kd.C (Kd.int .i64) w A0_2 l0_2.length l0_2) (hc0_2 : l0_2.length ≤ c0_2) (hr0_3 : Kd.C (Kd.int .i64) w A0_3 l0_3.length l0_3) (hc0_3 : l0_3.length ≤ c0_3) (h : planner_bound.f k l0_0 l0_1 l0_2 l0_3 a0_4 = some r) :
  Calls Try.prog 56 #[.agg #[.slice A0_0 l0_0.length c0_0, .slice A0_1 l0_1.length c0_1, .slice A0_2 l0_2.length c0_2, .slice A0_3 l0_3.length c0_3, .int .i64 a0_4]] w fun e w' => e = .returned (.int .i64 r) ∧ Below w.heap.size w w' := by
 have hu28 := Try.underlying28
 have HR0_0 := Aside0.mk hr0_0
 have HC0_0 := Aside0.mk hc0_0
 clear hr0_0 hc0_0
 have HR0_1 := Aside0.mk hr0_1
 have HC0_1 := Aside0.mk hc0_1
 clear hr0_1 hc0_1
 have HR0_2 := Aside0.mk hr0_2
 have HC0_2 := Aside0.mk hc0_2
 clear hr0_2 hc0_2
 have HR0_3 := Aside0.mk hr0_3
 have HC0_3 := Aside0.mk hc0_3
 clear hr0_3 hc0_3
 have HB := Aside0.mk (Below.refl w.heap.size w)
 have H : (planner_bound.l0 k 0 0 l0_3 (l0_3.length : Int) 0 l0_0 l0_1 l0_2 l0_3 a0_4) = some r := h
 clear h
 have H' := Aside0.mk H
 clear H
 go_enter Try.func56, Try.ntmps56
 go_wp2_with (first | ((with_reducible refine gate_dst (N := 1) rfl ?_); refine box_event ?hg (N := 1) ?hd (cs := #[.slice A0_0 l0_0.length c0_0, .slice A0_1 l0_1.length c0_1, .slice A0_2 l0_2.length c0_2, .slice A0_3 l0_3.length c0_3, .int .i64 a0_4]) (t := 28) ?hr ?_; (case hd => rfl); (case hg => rfl); (case hr => first | (go_simp; done) | (go_simp; rfl)); intro gb109 hg w2 hbox hb; have n0_ := Aside0.mk (below_step (qW HB.out) hb); have n1_ := Aside0.mk (hbox); have n2_ := Aside0.mk ((by rw [hg]; exact (below_size (qW HB.out)) : w.heap.size ≤ gb109)); have n3_ := Aside0.mk ((by rw [hg]; exact (below_size (qW HB.out)) : w.heap.size ≤ gb109)); clear HB; have HB := n0_; have BK109 := n1_; have GW109 := n2_; have GE109 := n3_; clear n0_ n1_ n2_ n3_ hb hbox hg; have hcz3_0 : w2.cell? ⟨gb109, 0, none⟩ = some (.slice A0_0 l0_0.length c0_0) := (blk_cell BK109.out 0).trans rfl; have hcz3_1 : w2.cell? ⟨gb109, 1, none⟩ = some (.slice A0_1 l0_1.length c0_1) := (blk_cell BK109.out 1).trans rfl; have hcz3_2 : w2.cell? ⟨gb109, 2, none⟩ = some (.slice A0_2 l0_2.length c0_2) := (blk_cell BK109.out 2).trans rfl; have hcz3_3 : w2.cell? ⟨gb109, 3, none⟩ = some (.slice A0_3 l0_3.length c0_3) := (blk_cell BK109.out 3).trans rfl; have hcz3_4 : w2.cell? ⟨gb109, 4, none⟩ = some (.int .i64 a0_4) := (blk_cell BK109.out 4).trans rfl; have hfz3_0 := blk_frozen BK109.out 0; have hfz3_1 := blk_frozen BK109.out 1; have hfz3_2 := blk_frozen BK109.out 2; have hfz3_3 := blk_frozen BK109.out 3; have hfz3_4 := blk_frozen BK109.out 4))
 go_loopg [3, 4, 10] k (fun kq v3 v4 v10 w' => ∃ (x3_1 : Int) (x4_1 : Int) (x10_1 : Int), v3 = .int .i64 x3_1 ∧ v4 = .int .i64 x4_1 ∧ v10 = .int .i64 x10_1 ∧ Aside0 (planner_bound.l0 kq x3_1 x4_1 l0_3 (l0_3.length : Int) x10_1 l0_0 l0_1 l0_2 l0_3 a0_4 = some r) ∧ Aside0 (kq ≤ k) ∧ Aside0 (w'.heap[gb109]? = some (.cells #[(.slice A0_0 l0_0.length c0_0), (.slice A0_1 l0_1.length c0_1), (.slice A0_2 l0_2.length c0_2), (.slice A0_3 l0_3.length c0_3), .int .i64 a0_4] 28 (0, 0))) ∧ Aside0 (Below w.heap.size w w'))
 case atStart => exact ⟨(0), (0), (0), (by first | rfl | (simp; done) | (simp [*]; done)), (by first | rfl | (simp; done) | (simp [*]; done)), (by first | rfl | (simp; done) | (simp [*]; done)), H', ⟨Nat.le_refl _⟩, ⟨by exact qB BK109.out⟩, ⟨by repeat (first | (with_reducible first | exact HB.out | apply below_alloc | apply pw_below_drewN | apply below_drew1 | refine below_set ?_ GE109.out) | exact HB.out)⟩⟩
 case round =>
  clear H'
  try clear p2
  try clear hcz3_0
  try clear hcz3_1
  try clear hcz3_2
  try clear hcz3_3
  try clear hcz3_4
  try clear hfz3_0
  try clear hfz3_1
  try clear hfz3_2
  try clear hfz3_3
  try clear hfz3_4
  obtain ⟨x3_1, x4_1, x10_1, rfl, rfl, rfl, HA, HK1, BK109, HB⟩ := hrel
  cases gk with
  | zero => exact absurd HA.out (by simp [planner_bound.l0])
  | succ k1 =>
   have H := HA.out
   clear HA
   simp only [planner_bound.l0] at H
   by_cases c4 : x10_1 < (l0_3.length : Int)
   case neg =>
    rw [if_neg c4] at H
    have c4b0 : decide (x10_1 < (l0_3.length : Int)) = false := decide_eq_false c4
    clear c4
    obtain rfl := Option.some.inj H
    go_wp2
    go_ret
    exact ⟨by first | rfl | (simp [errW_none, errW_some] <;> rfl) | (simp [*, errW_none, errW_some] <;> rfl), by repeat (first | (with_reducible first | exact HB.out | apply below_alloc | apply pw_below_drewN | apply below_drew1 | refine below_set ?_ GE109.out) | exact HB.out)⟩

   rw [if_pos c4] at H
   have c4b0 : decide (x10_1 < (l0_3.length : Int)) = true := decide_eq_true c4
   clear c4
   by_cases c5 : 0 ≤ x10_1
   case neg =>
    rw [if_neg c5] at H
    exact absurd H (by simp)
   rw [if_pos c5] at H
   have c5b0 : decide (0 ≤ x10_1) = true := decide_eq_true c5
   clear c5
   by_cases c6 : x10_1 < (l0_3.length : Int)
   case neg =>
    rw [if_neg c6] at H
    exact absurd H (by simp)
   rw [if_pos c6] at H
   have c6b0 : decide (x10_1 < (l0_3.length : Int)) = true := decide_eq_true c6
   clear c6
   by_cases c7 : x10_1 = 0
   ·rw [if_pos c7] at H
    have c7b0 : (x10_1 == 0) = true := beq_iff_eq.mpr c7
    have c7b1 : (x10_1 != 0) = false := bne_eq_false_iff_eq.mpr c7
    clear c7
    obtain ⟨ji8, hji8⟩ : ∃ j_ : Int, (mx x3_1 (wrap64 ((wrap64 ((rd l0_3 x10_1) - 1)) - x4_1))) = j_ := ⟨_, rfl⟩
    replace H : (if x10_1 < (l0_0.length : Int) then (planner_bound.l0 k1 (mx (ji8) (wrap64 ((rd l0_3 x10_1) - (rd l0_0 x10_1)))) (rd l0_0 x10_1) l0_3 (l0_3.length : Int) (wrap64 (x10_1 + 1)) l0_0 l0_1 l0_2 l0_3 a0_4) else (none)) = some r := by first | (rw [hji8] at H; exact H) | (simp only [hji8] at H ⊢; exact H)
    have hji8_ : (if x3_1 < (wrap64 ((wrap64 ((rd l0_3 x10_1) - 1)) - x4_1)) then (wrap64 ((wrap64 ((rd l0_3 x10_1) - 1)) - x4_1)) else x3_1) = ji8 := hji8
    by_cases c9 : x10_1 < (l0_0.length : Int)
    case neg =>
     rw [if_neg c9] at H
     exact absurd H (by simp)
    rw [if_pos c9] at H
    have c9b0 : decide (x10_1 < (l0_0.length : Int)) = true := decide_eq_true c9
    clear c9
    obtain ⟨ji10, hji10⟩ : ∃ j_ : Int, (mx (ji8) (wrap64 ((rd l0_3 x10_1) - (rd l0_0 x10_1)))) = j_ := ⟨_, rfl⟩
    replace H : (planner_bound.l0 k1 ji10 (rd l0_0 x10_1) l0_3 (l0_3.length : Int) (wrap64 (x10_1 + 1)) l0_0 l0_1 l0_2 l0_3 a0_4) = some r := by first | (rw [hji10] at H; exact H) | (simp only [hji10] at H ⊢; exact H)
    have hji10_ : (if (ji8) < (wrap64 ((rd l0_3 x10_1) - (rd l0_0 x10_1))) then (wrap64 ((rd l0_3 x10_1) - (rd l0_0 x10_1))) else (ji8)) = ji10 := hji10
    have H' := Aside0.mk H
    clear H
    have p110 : 0 ≤ (x10_1 : Int) := of_decide_eq_true (by first | (with_reducible assumption) | assumption)
    have q110 : x10_1 < (l0_3.length : Int) := of_decide_eq_true (by first | (with_reducible assumption) | assumption)
    obtain ⟨ad110, e110, hx110_0⟩ := Kd.at_int HR0_3.out x10_1 p110 q110
    cases e110
    replace hx110_0 := (HB.out.cell (World.block_lt_of_cell? w _ hx110_0)).trans hx110_0
    replace p110 := eq_true p110
    replace q110 := eq_true q110
    have hcz11_0 : wr.cell? ⟨gb109, 0, none⟩ = some (.slice A0_0 l0_0.length c0_0) := (blk_cell BK109.out 0).trans rfl
    have hcz11_1 : wr.cell? ⟨gb109, 1, none⟩ = some (.slice A0_1 l0_1.length c0_1) := (blk_cell BK109.out 1).trans rfl
    have hcz11_2 : wr.cell? ⟨gb109, 2, none⟩ = some (.slice A0_2 l0_2.length c0_2) := (blk_cell BK109.out 2).trans rfl
    have hcz11_3 : wr.cell? ⟨gb109, 3, none⟩ = some (.slice (some ad110) l0_3.length c0_3) := (blk_cell BK109.out 3).trans rfl
    have hcz11_4 : wr.cell? ⟨gb109, 4, none⟩ = some (.int .i64 a0_4) := (blk_cell BK109.out 4).trans rfl
    have hfz11_0 := blk_frozen BK109.out 0
    have hfz11_1 := blk_frozen BK109.out 1
    have hfz11_2 := blk_frozen BK109.out 2
    have hfz11_3 := blk_frozen BK109.out 3
    have hfz11_4 := blk_frozen BK109.out 4
    have p111 : 0 ≤ (x10_1 : Int) := of_decide_eq_true (by first | (with_reducible assumption) | assumption)
    have q111 : x10_1 < (l0_0.length : Int) := of_decide_eq_true (by first | (with_reducible assumption) | assumption)
    obtain ⟨ad111, e111, hx111_0⟩ := Kd.at_int HR0_0.out x10_1 p111 q111
    cases e111
    replace hx111_0 := (HB.out.cell (World.block_lt_of_cell? w _ hx111_0)).trans hx111_0
    replace p111 := eq_true p111
    replace q111 := eq_true q111
    go_wp2
    go_roundg k1
    case measure => have := HK1.out; omega
    case rel => exact ⟨(ji10), (rd l0_0 x10_1), (wrap64 (x10_1 + 1)), (by first | rfl | (simp; done) | (simp only [← hji10] <;> (first | rfl | simp)) | (simp [*]; done)), (by first | rfl | (simp; done) | (simp [*]; done)), (by first | rfl | (simp; done) | (simp [*]; done)), H', ⟨by have := HK1.out; omega⟩, ⟨by exact qB BK109.out⟩, ⟨by repeat (first | (with_reducible first | exact HB.out | apply below_alloc | apply pw_below_drewN | apply below_drew1 | refine below_set ?_ GE109.out) | exact HB.out)⟩⟩
   ·rw [if_neg c7] at H
    have c7b0 : (x10_1 == 0) = false := beq_eq_false_iff_ne.mpr c7
    have c7b1 : (x10_1 != 0) = true := bne_iff_ne.mpr c7
    obtain ⟨ji12, hji12⟩ : ∃ j_ : Int, (wrap64 (x10_1 - 1)) = j_ := ⟨_, rfl⟩
    replace H : (if 0 ≤ (ji12) then (if (ji12) < (l0_3.length : Int) then (if (rd l0_3 x10_1) > (rd l0_3 (ji12)) then (if x10_1 < (l0_0.length : Int) then (planner_bound.l0 k1 (mx (mx x3_1 (wrap64 ((wrap64 ((rd l0_3 x10_1) - 1)) - x4_1))) (wrap64 ((rd l0_3 x10_1) - (rd l0_0 x10_1)))) (rd l0_0 x10_1) l0_3 (l0_3.length : Int) (wrap64 (x10_1 + 1)) l0_0 l0_1 l0_2 l0_3 a0_4) else (none)) else (if x10_1 < (l0_0.length : Int) then (planner_bound.l0 k1 (mx x3_1 (wrap64 ((rd l0_3 x10_1) - (rd l0_0 x10_1)))) (rd l0_0 x10_1) l0_3 (l0_3.length : Int) (wrap64 (x10_1 + 1)) l0_0 l0_1 l0_2 l0_3 a0_4) else (none))) else (none)) else (none)) = some r := by first | (rw [hji12] at H; exact H) | (simp only [hji12] at H ⊢; exact H)
    have hji12w : (IntKind.i64.wrap (x10_1 - 1)) = ji12 := (i64_w _).trans hji12
    by_cases c13 : 0 ≤ (ji12)
    case neg =>
     rw [if_neg c13] at H
     exact absurd H (by simp)
    rw [if_pos c13] at H
    have c13b0 : decide (0 ≤ (ji12)) = true := decide_eq_true c13
    clear c13
    by_cases c14 : (ji12) < (l0_3.length : Int)
    case neg =>
     rw [if_neg c14] at H
     exact absurd H (by simp)
    rw [if_pos c14] at H
    have c14b0 : decide ((ji12) < (l0_3.length : Int)) = true := decide_eq_true c14
    clear c14
    by_cases c15 : (rd l0_3 x10_1) > (rd l0_3 (ji12))
    case neg =>
     rw [if_neg c15] at H
     have c15b0 : decide ((rd l0_3 (ji12)) < (rd l0_3 x10_1)) = false := decide_eq_false c15
     clear c15
     by_cases c20 : x10_1 < (l0_0.length : Int)
     case neg =>
      rw [if_neg c20] at H
      exact absurd H (by simp)
     rw [if_pos c20] at H
     have c20b0 : decide (x10_1 < (l0_0.length : Int)) = true := decide_eq_true c20
     clear c20
     obtain ⟨ji21, hji21⟩ : ∃ j_ : Int, (mx x3_1 (wrap64 ((rd l0_3 x10_1) - (rd l0_0 x10_1)))) = j_ := ⟨_, rfl⟩
     replace H : (planner_bound.l0 k1 ji21 (rd l0_0 x10_1) l0_3 (l0_3.length : Int) (wrap64 (x10_1 + 1)) l0_0 l0_1 l0_2 l0_3 a0_4) = some r := by first | (rw [hji21] at H; exact H) | (simp only [hji21] at H ⊢; exact H)
     have hji21_ : (if x3_1 < (wrap64 ((rd l0_3 x10_1) - (rd l0_0 x10_1))) then (wrap64 ((rd l0_3 x10_1) - (rd l0_0 x10_1))) else x3_1) = ji21 := hji21
     have H' := Aside0.mk H
     clear H
     have p110 : 0 ≤ (x10_1 : Int) := of_decide_eq_true (by first | (with_reducible assumption) | assumption)
     have q110 : x10_1 < (l0_3.length : Int) := of_decide_eq_true (by first | (with_reducible assumption) | assumption)
     obtain ⟨ad110, e110, hx110_0⟩ := Kd.at_int HR0_3.out x10_1 p110 q110
     cases e110
     replace hx110_0 := (HB.out.cell (World.block_lt_of_cell? w _ hx110_0)).trans hx110_0
     replace p110 := eq_true p110
     replace q110 := eq_true q110
     have hcz22_0 : wr.cell? ⟨gb109, 0, none⟩ = some (.slice A0_0 l0_0.length c0_0) := (blk_cell BK109.out 0).trans rfl
     have hcz22_1 : wr.cell? ⟨gb109, 1, none⟩ = some (.slice A0_1 l0_1.length c0_1) := (blk_cell BK109.out 1).trans rfl
     have hcz22_2 : wr.cell? ⟨gb109, 2, none⟩ = some (.slice A0_2 l0_2.length c0_2) := (blk_cell BK109.out 2).trans rfl
     have hcz22_3 : wr.cell? ⟨gb109, 3, none⟩ = some (.slice (some ad110) l0_3.length c0_3) := (blk_cell BK109.out 3).trans rfl
     have hcz22_4 : wr.cell? ⟨gb109, 4, none⟩ = some (.int .i64 a0_4) := (blk_cell BK109.out 4).trans rfl
     have hfz22_0 := blk_frozen BK109.out 0
     have hfz22_1 := blk_frozen BK109.out 1
     have hfz22_2 := blk_frozen BK109.out 2
     have hfz22_3 := blk_frozen BK109.out 3
     have hfz22_4 := blk_frozen BK109.out 4
     have p112 : 0 ≤ ((ji12) : Int) := of_decide_eq_true (by first | (with_reducible assumption) | assumption)
     have q112 : (ji12) < (l0_3.length : Int) := of_decide_eq_true (by first | (with_reducible assumption) | assumption)
     obtain ⟨ad112, e112, hx112_0⟩ := Kd.at_int HR0_3.out (ji12) p112 q112
     obtain rfl : ad110 = ad112 := (by injection e112)
     replace hx112_0 := (HB.out.cell (World.block_lt_of_cell? w _ hx112_0)).trans hx112_0
     replace p112 := eq_true p112
     replace q112 := eq_true q112
     have p114 : 0 ≤ (x10_1 : Int) := of_decide_eq_true (by first | (with_reducible assumption) | assumption)
     have q114 : x10_1 < (l0_0.length : Int) := of_decide_eq_true (by first | (with_reducible assumption) | assumption)
     obtain ⟨ad114, e114, hx114_0⟩ := Kd.at_int HR0_0.out x10_1 p114 q114
     cases e114
     replace hx114_0 := (HB.out.cell (World.block_lt_of_cell? w _ hx114_0)).trans hx114_0
     replace p114 := eq_true p114
     replace q114 := eq_true q114
     go_wp2
     go_roundg k1
     case measure => have := HK1.out; omega
     case rel => exact ⟨(ji21), (rd l0_0 x10_1), (wrap64 (x10_1 + 1)), (by first | rfl | (simp; done) | (simp only [← hji21] <;> (first | rfl | simp)) | (simp [*]; done)), (by first | rfl | (simp; done) | (simp [*]; done)), (by first | rfl | (simp; done) | (simp [*]; done)), H', ⟨by have := HK1.out; omega⟩, ⟨by exact qB BK109.out⟩, ⟨by repeat (first | (with_reducible first | exact HB.out | apply below_alloc | apply pw_below_drewN | apply below_drew1 | refine below_set ?_ GE109.out) | exact HB.out)⟩⟩
    rw [if_pos c15] at H
    have c15b0 : decide ((rd l0_3 (ji12)) < (rd l0_3 x10_1)) = true := decide_eq_true c15
    clear c15
    obtain ⟨ji16, hji16⟩ : ∃ j_ : Int, (mx x3_1 (wrap64 ((wrap64 ((rd l0_3 x10_1) - 1)) - x4_1))) = j_ := ⟨_, rfl⟩
    replace H : (if x10_1 < (l0_0.length : Int) then (planner_bound.l0 k1 (mx (ji16) (wrap64 ((rd l0_3 x10_1) - (rd l0_0 x10_1)))) (rd l0_0 x10_1) l0_3 (l0_3.length : Int) (wrap64 (x10_1 + 1)) l0_0 l0_1 l0_2 l0_3 a0_4) else (none)) = some r := by first | (rw [hji16] at H; exact H) | (simp only [hji16] at H ⊢; exact H)
    have hji16_ : (if x3_1 < (wrap64 ((wrap64 ((rd l0_3 x10_1) - 1)) - x4_1)) then (wrap64 ((wrap64 ((rd l0_3 x10_1) - 1)) - x4_1)) else x3_1) = ji16 := hji16
    by_cases c17 : x10_1 < (l0_0.length : Int)
    case neg =>
     rw [if_neg c17] at H
     exact absurd H (by simp)
    rw [if_pos c17] at H
    have c17b0 : decide (x10_1 < (l0_0.length : Int)) = true := decide_eq_true c17
    clear c17
    obtain ⟨ji18, hji18⟩ : ∃ j_ : Int, (mx (ji16) (wrap64 ((rd l0_3 x10_1) - (rd l0_0 x10_1)))) = j_ := ⟨_, rfl⟩
    replace H : (planner_bound.l0 k1 ji18 (rd l0_0 x10_1) l0_3 (l0_3.length : Int) (wrap64 (x10_1 + 1)) l0_0 l0_1 l0_2 l0_3 a0_4) = some r := by first | (rw [hji18] at H; exact H) | (simp only [hji18] at H ⊢; exact H)
    have hji18_ : (if (ji16) < (wrap64 ((rd l0_3 x10_1) - (rd l0_0 x10_1))) then (wrap64 ((rd l0_3 x10_1) - (rd l0_0 x10_1))) else (ji16)) = ji18 := hji18
    have H' := Aside0.mk H
    clear H
    have p110 : 0 ≤ (x10_1 : Int) := of_decide_eq_true (by first | (with_reducible assumption) | assumption)
    have q110 : x10_1 < (l0_3.length : Int) := of_decide_eq_true (by first | (with_reducible assumption) | assumption)
    obtain ⟨ad110, e110, hx110_0⟩ := Kd.at_int HR0_3.out x10_1 p110 q110
    cases e110
    replace hx110_0 := (HB.out.cell (World.block_lt_of_cell? w _ hx110_0)).trans hx110_0
    replace p110 := eq_true p110
    replace q110 := eq_true q110
    have hcz19_0 : wr.cell? ⟨gb109, 0, none⟩ = some (.slice A0_0 l0_0.length c0_0) := (blk_cell BK109.out 0).trans rfl
    have hcz19_1 : wr.cell? ⟨gb109, 1, none⟩ = some (.slice A0_1 l0_1.length c0_1) := (blk_cell BK109.out 1).trans rfl
    have hcz19_2 : wr.cell? ⟨gb109, 2, none⟩ = some (.slice A0_2 l0_2.length c0_2) := (blk_cell BK109.out 2).trans rfl
    have hcz19_3 : wr.cell? ⟨gb109, 3, none⟩ = some (.slice (some ad110) l0_3.length c0_3) := (blk_cell BK109.out 3).trans rfl
    have hcz19_4 : wr.cell? ⟨gb109, 4, none⟩ = some (.int .i64 a0_4) := (blk_cell BK109.out 4).trans rfl
    have hfz19_0 := blk_frozen BK109.out 0
    have hfz19_1 := blk_frozen BK109.out 1
    have hfz19_2 := blk_frozen BK109.out 2
    have hfz19_3 := blk_frozen BK109.out 3
    have hfz19_4 := blk_frozen BK109.out 4
    have p112 : 0 ≤ ((ji12) : Int) := of_decide_eq_true (by first | (with_reducible assumption) | assumption)
    have q112 : (ji12) < (l0_3.length : Int) := of_decide_eq_true (by first | (with_reducible assumption) | assumption)
    obtain ⟨ad112, e112, hx112_0⟩ := Kd.at_int HR0_3.out (ji12) p112 q112
    obtain rfl : ad110 = ad112 := (by injection e112)
    replace hx112_0 := (HB.out.cell (World.block_lt_of_cell? w _ hx112_0)).trans hx112_0
    replace p112 := eq_true p112
    replace q112 := eq_true q112
    have p113 : 0 ≤ (x10_1 : Int) := of_decide_eq_true (by first | (with_reducible assumption) | assumption)
    have q113 : x10_1 < (l0_0.length : Int) := of_decide_eq_true (by first | (with_reducible assumption) | assumption)
    obtain ⟨ad113, e113, hx113_0⟩ := Kd.at_int HR0_0.out x10_1 p113 q113
    cases e113
    replace hx113_0 := (HB.out.cell (World.block_lt_of_cell? w _ hx113_0)).trans hx113_0
    replace p113 := eq_true p113
    replace q113 := eq_true q113
    go_wp2
    go_roundg k1
    case measure => have := HK1.out; omega
    case rel => exact ⟨(ji18), (rd l0_0 x10_1), (wrap64 (x10_1 + 1)), (by first | rfl | (simp; done) | (simp only [← hji18] <;> (first | rfl | simp)) | (simp [*]; done)), (by first | rfl | (simp; done) | (simp [*]; done)), (by first | rfl | (simp; done) | (simp [*]; done)), H', ⟨by have := HK1.out; omega⟩, ⟨by exact qB BK109.out⟩, ⟨by repeat (first | (with_reducible first | exact HB.out | apply below_alloc | apply pw_below_drewN | apply below_drew1 | refine below_set ?_ GE109.out) | exact HB.out)⟩⟩
end Go.Proofs.Ytcflacjidabppaa.Pr

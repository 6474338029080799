-- Written by pp.py, a program of this session, over the translation of the given program; a machine's text: Lean checks it.
import Derived.Test.YtanlonngekgibaaGShort
import Derived.Test.YtanlonngekgibaaF11
import Derived.Test.YtanlonngekgibaaF23
import Derived.Test.YtanlonngekgibaaF25
import Derived.Test.YtanlonngekgibaaF27
import Derived.Test.YtanlonngekgibaaGDelay
namespace Go.Proofs.Ytanlonngekgibaa.Pr
open Go.RowKit Go.Proofs.YtanlonngekgibaaW.PrintWords Go.Proofs.YtanlonngekgibaaW.PrintLast Go.Proofs.YtanlonngekgibaaW.PrintMore
attribute [local go_sem] max2_int min2_int max_two min_two max_three min_three max_four min_four   -- for this text's walks alone
set_option linter.unusedVariables false
set_option linter.unusedSimpArgs false

/-! ### standbylaw55_CurveDeviates: function 5 -/
def standbylaw55_CurveDeviates.j0 : Nat → Bool → List Int → Int → List Int → Int → Option (Bool)
 | 0, _, _, _, _, _ => none
 | k + 1, x20, x299000, x299001, x300000, x300001 => if x20 = true then ((standbylaw55_awake.f k).bind fun t303 => (some t303)) else ((curve_Delay.f k x299000 x299001 x300000 x300001).bind fun bt304 => ((standbyref55_Delay.f k x299000 x299001 x300000 x300001).bind fun bt306 => ((curve_Backlog.f k x299000 x299001 x300000 x300001).bind fun bt308 => ((standbyref55_Backlog.f k x299000 x299001 x300000 x300001).bind fun bt310 => (if bt304.1 = bt306.1 then (if bt304.2 = bt306.2 then (if bt308.1 = bt310.1 then (if bt308.2 = bt310.2 then ((standbylaw55_awake.f k).bind fun t312 => (some t312)) else (none)) else (none)) else (none)) else (none))))))
def standbylaw55_CurveDeviates.f (k : Nat) (l0_0 : List Int) (a0_1 : Int) (l1_0 : List Int) (a1_1 : Int) : Option (Bool) := (standbyref55_Few.f l0_0 a0_1).bind fun t300 => (if t300 = true then ((standbyref55_Few.f l1_0 a1_1).bind fun t301 => (standbylaw55_CurveDeviates.j0 k (!t301) l0_0 a0_1 l1_0 a1_1)) else (standbylaw55_CurveDeviates.j0 k true l0_0 a0_1 l1_0 a1_1))
set_option maxHeartbeats 8000000 in
set_option maxRecDepth 100000 in
theorem standbylaw55_CurveDeviates.calls (k : Nat) (A0_0 : Option Addr) (c0_0 : Nat) (l0_0 : List Int) (a0_1 : Int) (A1_0 : Option Addr) (c1_0 : Nat) (l1_0 : List Int) (a1_1 : Int) (r : Bool) (w : World) (hr0_0 : Kd.C (Kd.int .i64) w A0_0 l0_0.length l0_0) (hc0_0 : l0_0.length ≤ c0_0) (hr1_0 : Kd.C (Kd.int .i64) w A1_0 l1_0.length l1_0) (hc1_0 : l1_0.length ≤ c1_0) (h : standbylaw55_CurveDeviates.f k l0_0 a0_1 l1_0 a1_1 = some r) :
  Calls Try.prog 5 #[.agg #[.slice A0_0 l0_0.length c0_0, .int .i64 a0_1], .agg #[.slice A1_0 l1_0.length c1_0, .int .i64 a1_1]] w fun e w' => e = .returned (.bool r) ∧ Below w.heap.size w w' := by
 have hu24 := Try.underlying24
 have HR0_0 := Aside0.mk hr0_0
 have HC0_0 := Aside0.mk hc0_0
 clear hr0_0 hc0_0
 have HR1_0 := Aside0.mk hr1_0
 have HC1_0 := Aside0.mk hc1_0
 clear hr1_0 hc1_0
 have HB := Aside0.mk (Below.refl w.heap.size w)
 have H : ((standbyref55_Few.f l0_0 a0_1).bind fun t300 => (if t300 = true then ((standbyref55_Few.f l1_0 a1_1).bind fun t301 => (standbylaw55_CurveDeviates.j0 k (!t301) l0_0 a0_1 l1_0 a1_1)) else (standbylaw55_CurveDeviates.j0 k true l0_0 a0_1 l1_0 a1_1))) = some r := h
 clear h
 have HC3 := Aside0.mk H
 clear H
 go_enter Try.func5, Try.ntmps5
 go_upto_region 1 with (first | ((with_reducible refine gate_dst (N := 2) rfl ?_); refine box_event ?hg (N := 2) ?hd (cs := #[.slice A0_0 l0_0.length c0_0, .int .i64 a0_1]) (t := 24) ?hr ?_; (case hd => rfl); (case hg => rfl); (case hr => first | (go_simp; done) | (go_simp; rfl)); intro gb298 hg w4 hbox hb; have n0_ := Aside0.mk (below_step (qW HB.out) hb); have n1_ := Aside0.mk (hbox); have n2_ := Aside0.mk ((by rw [hg]; exact (below_size (qW HB.out)) : w.heap.size ≤ gb298)); have n3_ := Aside0.mk ((by rw [hg]; exact (below_size (qW HB.out)) : w.heap.size ≤ gb298)); clear HB; have HB := n0_; have BK298 := n1_; have GW298 := n2_; have GE298 := n3_; clear n0_ n1_ n2_ n3_ hb hbox hg) | ((with_reducible refine gate_dst (N := 3) rfl ?_); refine box_event ?hg (N := 3) ?hd (cs := #[.slice A1_0 l1_0.length c1_0, .int .i64 a1_1]) (t := 24) ?hr ?_; (case hd => rfl); (case hg => rfl); (case hr => first | (go_simp; done) | (go_simp; rfl)); intro gb299 hg w5 hbox hb; have n0_ := Aside0.mk (blk_below (qB BK298.out) hb); have n1_ := Aside0.mk (below_step (qW HB.out) hb); have n2_ := Aside0.mk (hbox); have n3_ := Aside0.mk ((by rw [hg]; exact (below_size (qW HB.out)) : w.heap.size ≤ gb299)); have n4_ := Aside0.mk ((by rw [hg]; exact (below_size (qW HB.out)) : w.heap.size ≤ gb299)); have n5_ := Aside0.mk ((by rw [hg]; exact Nat.ne_of_lt (blk_lt (qB BK298.out)) : gb298 ≠ gb299)); have n6_ := Aside0.mk ((by rw [hg]; exact Nat.ne_of_gt (blk_lt (qB BK298.out)) : gb299 ≠ gb298)); clear BK298 HB; have BK298 := n0_; have HB := n1_; have BK299 := n2_; have GW299 := n3_; have GE299 := n4_; have NB298_299 := n5_; have NB299_298 := n6_; clear n0_ n1_ n2_ n3_ n4_ n5_ n6_ hb hbox hg))
 (try simp only [Act.put, List.setIfInBounds_toArray, List.set_cons_zero, List.set_cons_succ])
 go_cut [20] (fun v20 wc => ∃ (kq : Nat) (x20_2 : Bool), v20 = .bool x20_2 ∧ Aside0 (standbylaw55_CurveDeviates.j0 kq x20_2 l0_0 a0_1 l1_0 a1_1 = some r) ∧ Aside0 (kq ≤ k) ∧ Aside0 (wc.heap[gb298]? = some (.cells #[(.slice A0_0 l0_0.length c0_0), .int .i64 a0_1] 24 (0, 0))) ∧ Aside0 (wc.heap[gb299]? = some (.cells #[(.slice A1_0 l1_0.length c1_0), .int .i64 a1_1] 24 (0, 0))) ∧ Aside0 (Below w.heap.size w wc))
 case first =>
  have H := HC3.out
  clear HC3
  replace H := Option.bind_eq_some_iff.mp H
  obtain ⟨t300, A60, H⟩ := H
  replace H : (if t300 = true then ((standbyref55_Few.f l1_0 a1_1).bind fun t301 => (standbylaw55_CurveDeviates.j0 k (!t301) l0_0 a0_1 l1_0 a1_1)) else (standbylaw55_CurveDeviates.j0 k true l0_0 a0_1 l1_0 a1_1)) = some r := H
  have A6 := Aside0.mk A60
  clear A60
  by_cases c7 : t300 = true
  case neg =>
   replace c7 := Bool.eq_false_iff.mpr c7
   subst c7
   have H1 : (standbylaw55_CurveDeviates.j0 k true l0_0 a0_1 l1_0 a1_1) = some r := by rw [if_neg (show ¬ (false = true) by decide)] at H; exact H
   clear H
   have H := H1
   clear H1
   have H' := Aside0.mk H
   clear H
   have hnb14 := NB298_299.out
   have hnc14 := NB299_298.out
   have hcz15_0 : w5.cell? ⟨gb298, 0, none⟩ = some (.slice A0_0 l0_0.length c0_0) := (blk_cell BK298.out 0).trans rfl
   have hcz15_1 : w5.cell? ⟨gb298, 1, none⟩ = some (.int .i64 a0_1) := (blk_cell BK298.out 1).trans rfl
   have hfz15_0 := blk_frozen BK298.out 0
   have hfz15_1 := blk_frozen BK298.out 1
   go_wp2_with (first | ((with_reducible refine gate_callee (f := 23) rfl ?_); refine goesL_ (some 14) rfl rfl Try.func23 (by kernel_rfl) rfl #[.agg #[.slice A0_0 l0_0.length c0_0, .int .i64 a0_1]] rfl (by (try simp only [List.map_toArray, List.map_cons, List.map_nil]); first | done | rfl | (simp only [List.length_drop, List.length_take]; rfl)) ?_; (with_reducible refine (standbyref55_Few.calls _ _ l0_0 a0_1 false _ ?side1 ?side2 A6.out).mono ?_); (case side1 => exact qC HR0_0.out HB.out); (case side2 => exact HC0_0.out); rintro e w16 ⟨rfl, hb⟩; refine ⟨_, rfl, ?_⟩; have n0_ := Aside0.mk (blk_below (qB BK298.out) hb); have n1_ := Aside0.mk (blk_below (qB BK299.out) hb); have n2_ := Aside0.mk (below_step (qW HB.out) hb); clear BK298 BK299 HB; have BK298 := n0_; have BK299 := n1_; have HB := n2_; clear n0_ n1_ n2_; (try clear hb); (try clear hb2); (try clear hk); (try clear hi)))
   go_meet
   case rel => exact ⟨_, (true), (by first | rfl | (simp; done) | (simp [*]; done)), H', ⟨by first | omega | exact Nat.le_refl _⟩, ⟨by exact qB BK298.out⟩, ⟨by exact qB BK299.out⟩, ⟨by repeat (first | (with_reducible first | exact HB.out | apply below_alloc | apply pw_below_drewN | apply below_drew1 | refine below_set ?_ GE298.out | refine below_set ?_ GE299.out) | exact HB.out)⟩⟩
  subst c7
  have H1 : ((standbyref55_Few.f l1_0 a1_1).bind fun t301 => (standbylaw55_CurveDeviates.j0 k (!t301) l0_0 a0_1 l1_0 a1_1)) = some r := by rw [if_pos rfl] at H; exact H
  clear H
  have H := H1
  clear H1
  replace H := Option.bind_eq_some_iff.mp H
  obtain ⟨t301, A80, H⟩ := H
  replace H : (standbylaw55_CurveDeviates.j0 k (!t301) l0_0 a0_1 l1_0 a1_1) = some r := H
  have A8 := Aside0.mk A80
  clear A80
  have H' := Aside0.mk H
  clear H
  have hnb9 := NB298_299.out
  have hnc9 := NB299_298.out
  have hcz10_0 : w5.cell? ⟨gb298, 0, none⟩ = some (.slice A0_0 l0_0.length c0_0) := (blk_cell BK298.out 0).trans rfl
  have hcz10_1 : w5.cell? ⟨gb298, 1, none⟩ = some (.int .i64 a0_1) := (blk_cell BK298.out 1).trans rfl
  have hfz10_0 := blk_frozen BK298.out 0
  have hfz10_1 := blk_frozen BK298.out 1
  go_wp2_with (first | ((with_reducible refine gate_callee (f := 23) rfl ?_); refine goesL_ (some 14) rfl rfl Try.func23 (by kernel_rfl) rfl #[.agg #[.slice A0_0 l0_0.length c0_0, .int .i64 a0_1]] rfl (by (try simp only [List.map_toArray, List.map_cons, List.map_nil]); first | done | rfl | (simp only [List.length_drop, List.length_take]; rfl)) ?_; (with_reducible refine (standbyref55_Few.calls _ _ l0_0 a0_1 true _ ?side1 ?side2 A6.out).mono ?_); (case side1 => exact qC HR0_0.out HB.out); (case side2 => exact HC0_0.out); rintro e w11 ⟨rfl, hb⟩; refine ⟨_, rfl, ?_⟩; have n0_ := Aside0.mk (blk_below (qB BK298.out) hb); have n1_ := Aside0.mk (blk_below (qB BK299.out) hb); have n2_ := Aside0.mk (below_step (qW HB.out) hb); clear BK298 BK299 HB; have BK298 := n0_; have BK299 := n1_; have HB := n2_; clear n0_ n1_ n2_; (try clear hb); (try clear hb2); (try clear hk); (try clear hi); have hcz12_0 : w11.cell? ⟨gb299, 0, none⟩ = some (.slice A1_0 l1_0.length c1_0) := (blk_cell BK299.out 0).trans rfl; have hcz12_1 : w11.cell? ⟨gb299, 1, none⟩ = some (.int .i64 a1_1) := (blk_cell BK299.out 1).trans rfl; have hfz12_0 := blk_frozen BK299.out 0; have hfz12_1 := blk_frozen BK299.out 1) | (go_at_call 23; (with_reducible refine (standbyref55_Few.calls _ _ l1_0 a1_1 t301 _ ?side1 ?side2 A8.out).mono ?_); (case side1 => exact qC HR1_0.out HB.out); (case side2 => exact HC1_0.out); rintro e w13 ⟨rfl, hb⟩; have n0_ := Aside0.mk (blk_below (qB BK298.out) hb); have n1_ := Aside0.mk (blk_below (qB BK299.out) hb); have n2_ := Aside0.mk (below_step (qW HB.out) hb); clear BK298 BK299 HB; have BK298 := n0_; have BK299 := n1_; have HB := n2_; clear n0_ n1_ n2_; (try clear hb); (try clear hb2); (try clear hk); (try clear hi)))
  go_meet
  case rel => exact ⟨_, (!t301), (by first | rfl | (simp; done) | (simp [*]; done)), H', ⟨by first | omega | exact Nat.le_refl _⟩, ⟨by exact qB BK298.out⟩, ⟨by exact qB BK299.out⟩, ⟨by repeat (first | (with_reducible first | exact HB.out | apply below_alloc | apply pw_below_drewN | apply below_drew1 | refine below_set ?_ GE298.out | refine below_set ?_ GE299.out) | exact HB.out)⟩⟩
 case rest =>
  clear HC3
  try clear c1
  try clear c2
  try clear p2
  try clear c5
  try clear c7
  try clear c9
  try clear c14
  try clear hcz10_0
  try clear hcz10_1
  try clear hcz12_0
  try clear hcz12_1
  try clear hcz15_0
  try clear hcz15_1
  try clear hfz10_0
  try clear hfz10_1
  try clear hfz12_0
  try clear hfz12_1
  try clear hfz15_0
  try clear hfz15_1
  obtain ⟨kq, x20_2, rfl, HA, HJ2, BK298, BK299, HB⟩ := hcut
  cases kq with
  | zero => exact absurd HA.out (by simp [standbylaw55_CurveDeviates.j0])
  | succ kj2 =>
   have H := HA.out
   clear HA
   simp only [standbylaw55_CurveDeviates.j0] at H
   by_cases c17 : x20_2 = true
   ·subst c17
    have H1 : ((standbylaw55_awake.f kj2).bind fun t303 => (some t303)) = some r := by rw [if_pos rfl] at H; exact H
    clear H
    have H := H1
    clear H1
    replace H := Option.bind_eq_some_iff.mp H
    obtain ⟨t303, A180, H⟩ := H
    replace H : (some t303) = some r := H
    have A18 := Aside0.mk A180
    clear A180
    obtain rfl := Option.some.inj H
    go_wp2_with (first | ((with_reducible refine gate_callee (f := 11) rfl ?_); refine goesL_ (some 21) rfl rfl Try.func11 (by kernel_rfl) rfl #[] rfl (by (try simp only [List.map_toArray, List.map_cons, List.map_nil]); first | done | rfl | (simp only [List.length_drop, List.length_take]; rfl)) ?_; (with_reducible refine (standbylaw55_awake.calls kj2  t303 _ A18.out).mono ?_); rintro e w19 ⟨rfl, hb⟩; refine ⟨_, rfl, ?_⟩; have n0_ := Aside0.mk (blk_below (qB BK298.out) hb); have n1_ := Aside0.mk (blk_below (qB BK299.out) hb); have n2_ := Aside0.mk (below_step (qW HB.out) hb); clear BK298 BK299 HB; have BK298 := n0_; have BK299 := n1_; have HB := n2_; clear n0_ n1_ n2_; (try clear hb); (try clear hb2); (try clear hk); (try clear hi)))
    go_ret
    exact ⟨by first | rfl | (simp [errW_none, errW_some] <;> rfl) | (simp [*, errW_none, errW_some] <;> rfl), by repeat (first | (with_reducible first | exact HB.out | apply below_alloc | apply pw_below_drewN | apply below_drew1 | refine below_set ?_ GE298.out | refine below_set ?_ GE299.out) | exact HB.out)⟩
   ·replace c17 := Bool.eq_false_iff.mpr c17
    subst c17
    have H1 : ((curve_Delay.f kj2 l0_0 a0_1 l1_0 a1_1).bind fun bt304 => ((standbyref55_Delay.f kj2 l0_0 a0_1 l1_0 a1_1).bind fun bt306 => ((curve_Backlog.f kj2 l0_0 a0_1 l1_0 a1_1).bind fun bt308 => ((standbyref55_Backlog.f kj2 l0_0 a0_1 l1_0 a1_1).bind fun bt310 => (if bt304.1 = bt306.1 then (if bt304.2 = bt306.2 then (if bt308.1 = bt310.1 then (if bt308.2 = bt310.2 then ((standbylaw55_awake.f kj2).bind fun t312 => (some t312)) else (none)) else (none)) else (none)) else (none)))))) = some r := by rw [if_neg (show ¬ (false = true) by decide)] at H; exact H
    clear H
    have H := H1
    clear H1
    replace H := Option.bind_eq_some_iff.mp H
    obtain ⟨⟨t304, t305⟩, A200, H⟩ := H
    replace H : ((standbyref55_Delay.f kj2 l0_0 a0_1 l1_0 a1_1).bind fun bt306 => ((curve_Backlog.f kj2 l0_0 a0_1 l1_0 a1_1).bind fun bt308 => ((standbyref55_Backlog.f kj2 l0_0 a0_1 l1_0 a1_1).bind fun bt310 => (if t304 = bt306.1 then (if t305 = bt306.2 then (if bt308.1 = bt310.1 then (if bt308.2 = bt310.2 then ((standbylaw55_awake.f kj2).bind fun t312 => (some t312)) else (none)) else (none)) else (none)) else (none))))) = some r := H
    have A20 := Aside0.mk A200
    clear A200
    replace H := Option.bind_eq_some_iff.mp H
    obtain ⟨⟨t306, t307⟩, A210, H⟩ := H
    replace H : ((curve_Backlog.f kj2 l0_0 a0_1 l1_0 a1_1).bind fun bt308 => ((standbyref55_Backlog.f kj2 l0_0 a0_1 l1_0 a1_1).bind fun bt310 => (if t304 = t306 then (if t305 = t307 then (if bt308.1 = bt310.1 then (if bt308.2 = bt310.2 then ((standbylaw55_awake.f kj2).bind fun t312 => (some t312)) else (none)) else (none)) else (none)) else (none)))) = some r := H
    have A21 := Aside0.mk A210
    clear A210
    replace H := Option.bind_eq_some_iff.mp H
    obtain ⟨⟨t308, t309⟩, A220, H⟩ := H
    replace H : ((standbyref55_Backlog.f kj2 l0_0 a0_1 l1_0 a1_1).bind fun bt310 => (if t304 = t306 then (if t305 = t307 then (if t308 = bt310.1 then (if t309 = bt310.2 then ((standbylaw55_awake.f kj2).bind fun t312 => (some t312)) else (none)) else (none)) else (none)) else (none))) = some r := H
    have A22 := Aside0.mk A220
    clear A220
    replace H := Option.bind_eq_some_iff.mp H
    obtain ⟨⟨t310, t311⟩, A230, H⟩ := H
    replace H : (if t304 = t306 then (if t305 = t307 then (if t308 = t310 then (if t309 = t311 then ((standbylaw55_awake.f kj2).bind fun t312 => (some t312)) else (none)) else (none)) else (none)) else (none)) = some r := H
    have A23 := Aside0.mk A230
    clear A230
    by_cases c24 : t304 = t306
    case neg =>
     rw [if_neg c24] at H
     exact absurd H (by simp)

    rw [if_pos c24] at H
    have c24b0 : (t304 == t306) = true := beq_iff_eq.mpr c24
    have c24b1 : (t304 != t306) = false := bne_eq_false_iff_eq.mpr c24
    clear c24
    by_cases c25 : t305 = t307
    case neg =>
     rw [if_neg c25] at H
     exact absurd H (by simp)
    rw [if_pos c25] at H
    have c25b0 : (t305 == t307) = true := beq_iff_eq.mpr c25
    have c25b1 : (t305 != t307) = false := bne_eq_false_iff_eq.mpr c25
    clear c25
    by_cases c26 : t308 = t310
    case neg =>
     rw [if_neg c26] at H
     exact absurd H (by simp)
    rw [if_pos c26] at H
    have c26b0 : (t308 == t310) = true := beq_iff_eq.mpr c26
    have c26b1 : (t308 != t310) = false := bne_eq_false_iff_eq.mpr c26
    clear c26
    by_cases c27 : t309 = t311
    case neg =>
     rw [if_neg c27] at H
     exact absurd H (by simp)
    rw [if_pos c27] at H
    have c27b0 : (t309 == t311) = true := beq_iff_eq.mpr c27
    have c27b1 : (t309 != t311) = false := bne_eq_false_iff_eq.mpr c27
    clear c27
    replace H := Option.bind_eq_some_iff.mp H
    obtain ⟨t312, A280, H⟩ := H
    replace H : (some t312) = some r := H
    have A28 := Aside0.mk A280
    clear A280
    obtain rfl := Option.some.inj H
    have hnb29 := NB298_299.out
    have hnc29 := NB299_298.out
    have hcz30_0 : wc.cell? ⟨gb298, 0, none⟩ = some (.slice A0_0 l0_0.length c0_0) := (blk_cell BK298.out 0).trans rfl
    have hcz30_1 : wc.cell? ⟨gb298, 1, none⟩ = some (.int .i64 a0_1) := (blk_cell BK298.out 1).trans rfl
    have hfz30_0 := blk_frozen BK298.out 0
    have hfz30_1 := blk_frozen BK298.out 1
    have hcz31_0 : wc.cell? ⟨gb299, 0, none⟩ = some (.slice A1_0 l1_0.length c1_0) := (blk_cell BK299.out 0).trans rfl
    have hcz31_1 : wc.cell? ⟨gb299, 1, none⟩ = some (.int .i64 a1_1) := (blk_cell BK299.out 1).trans rfl
    have hfz31_0 := blk_frozen BK299.out 0
    have hfz31_1 := blk_frozen BK299.out 1
    go_wp2_with (first | ((with_reducible refine gate_callee (f := 24) rfl ?_); refine goesL_ (some 25) rfl rfl Try.func24 (by kernel_rfl) rfl #[.agg #[.slice A0_0 l0_0.length c0_0, .int .i64 a0_1], .agg #[.slice A1_0 l1_0.length c1_0, .int .i64 a1_1]] rfl (by (try simp only [List.map_toArray, List.map_cons, List.map_nil]); first | done | rfl | (simp only [List.length_drop, List.length_take]; rfl)) ?_; (with_reducible refine (curve_Delay.calls kj2 _ _ l0_0 a0_1 _ _ l1_0 a1_1 t304 t305 _ ?side1 ?side2 ?side3 ?side4 A20.out).mono ?_); (case side1 => exact qC HR0_0.out HB.out); (case side2 => exact HC0_0.out); (case side3 => exact qC HR1_0.out HB.out); (case side4 => exact HC1_0.out); rintro e w32 ⟨rfl, hb⟩; refine ⟨_, rfl, ?_⟩; have n0_ := Aside0.mk (blk_below (qB BK298.out) hb); have n1_ := Aside0.mk (blk_below (qB BK299.out) hb); have n2_ := Aside0.mk (below_step (qW HB.out) hb); clear BK298 BK299 HB; have BK298 := n0_; have BK299 := n1_; have HB := n2_; clear n0_ n1_ n2_; (try clear hb); (try clear hb2); (try clear hk); (try clear hi); have hcz33_0 : w32.cell? ⟨gb298, 0, none⟩ = some (.slice A0_0 l0_0.length c0_0) := (blk_cell BK298.out 0).trans rfl; have hcz33_1 : w32.cell? ⟨gb298, 1, none⟩ = some (.int .i64 a0_1) := (blk_cell BK298.out 1).trans rfl; have hfz33_0 := blk_frozen BK298.out 0; have hfz33_1 := blk_frozen BK298.out 1; have hcz34_0 : w32.cell? ⟨gb299, 0, none⟩ = some (.slice A1_0 l1_0.length c1_0) := (blk_cell BK299.out 0).trans rfl; have hcz34_1 : w32.cell? ⟨gb299, 1, none⟩ = some (.int .i64 a1_1) := (blk_cell BK299.out 1).trans rfl; have hfz34_0 := blk_frozen BK299.out 0; have hfz34_1 := blk_frozen BK299.out 1) | ((with_reducible refine gate_callee (f := 25) rfl ?_); refine goesL_ (some 31) rfl rfl Try.func25 (by kernel_rfl) rfl #[.agg #[.slice A0_0 l0_0.length c0_0, .int .i64 a0_1], .agg #[.slice A1_0 l1_0.length c1_0, .int .i64 a1_1]] rfl (by (try simp only [List.map_toArray, List.map_cons, List.map_nil]); first | done | rfl | (simp only [List.length_drop, List.length_take]; rfl)) ?_; (with_reducible refine (standbyref55_Delay.calls kj2 _ _ l0_0 a0_1 _ _ l1_0 a1_1 t306 t307 _ ?side1 ?side2 ?side3 ?side4 A21.out).mono ?_); (case side1 => exact qC HR0_0.out HB.out); (case side2 => exact HC0_0.out); (case side3 => exact qC HR1_0.out HB.out); (case side4 => exact HC1_0.out); rintro e w35 ⟨rfl, hb⟩; refine ⟨_, rfl, ?_⟩; have n0_ := Aside0.mk (blk_below (qB BK298.out) hb); have n1_ := Aside0.mk (blk_below (qB BK299.out) hb); have n2_ := Aside0.mk (below_step (qW HB.out) hb); clear BK298 BK299 HB; have BK298 := n0_; have BK299 := n1_; have HB := n2_; clear n0_ n1_ n2_; (try clear hb); (try clear hb2); (try clear hk); (try clear hi); have hcz36_0 : w35.cell? ⟨gb298, 0, none⟩ = some (.slice A0_0 l0_0.length c0_0) := (blk_cell BK298.out 0).trans rfl; have hcz36_1 : w35.cell? ⟨gb298, 1, none⟩ = some (.int .i64 a0_1) := (blk_cell BK298.out 1).trans rfl; have hfz36_0 := blk_frozen BK298.out 0; have hfz36_1 := blk_frozen BK298.out 1; have hcz37_0 : w35.cell? ⟨gb299, 0, none⟩ = some (.slice A1_0 l1_0.length c1_0) := (blk_cell BK299.out 0).trans rfl; have hcz37_1 : w35.cell? ⟨gb299, 1, none⟩ = some (.int .i64 a1_1) := (blk_cell BK299.out 1).trans rfl; have hfz37_0 := blk_frozen BK299.out 0; have hfz37_1 := blk_frozen BK299.out 1) | ((with_reducible refine gate_callee (f := 26) rfl ?_); refine goesL_ (some 37) rfl rfl Try.func26 (by kernel_rfl) rfl #[.agg #[.slice A0_0 l0_0.length c0_0, .int .i64 a0_1], .agg #[.slice A1_0 l1_0.length c1_0, .int .i64 a1_1]] rfl (by (try simp only [List.map_toArray, List.map_cons, List.map_nil]); first | done | rfl | (simp only [List.length_drop, List.length_take]; rfl)) ?_; (with_reducible refine (curve_Backlog.calls kj2 _ _ l0_0 a0_1 _ _ l1_0 a1_1 t308 t309 _ ?side1 ?side2 ?side3 ?side4 A22.out).mono ?_); (case side1 => exact qC HR0_0.out HB.out); (case side2 => exact HC0_0.out); (case side3 => exact qC HR1_0.out HB.out); (case side4 => exact HC1_0.out); rintro e w38 ⟨rfl, hb⟩; refine ⟨_, rfl, ?_⟩; have n0_ := Aside0.mk (blk_below (qB BK298.out) hb); have n1_ := Aside0.mk (blk_below (qB BK299.out) hb); have n2_ := Aside0.mk (below_step (qW HB.out) hb); clear BK298 BK299 HB; have BK298 := n0_; have BK299 := n1_; have HB := n2_; clear n0_ n1_ n2_; (try clear hb); (try clear hb2); (try clear hk); (try clear hi); have hcz39_0 : w38.cell? ⟨gb298, 0, none⟩ = some (.slice A0_0 l0_0.length c0_0) := (blk_cell BK298.out 0).trans rfl; have hcz39_1 : w38.cell? ⟨gb298, 1, none⟩ = some (.int .i64 a0_1) := (blk_cell BK298.out 1).trans rfl; have hfz39_0 := blk_frozen BK298.out 0; have hfz39_1 := blk_frozen BK298.out 1; have hcz40_0 : w38.cell? ⟨gb299, 0, none⟩ = some (.slice A1_0 l1_0.length c1_0) := (blk_cell BK299.out 0).trans rfl; have hcz40_1 : w38.cell? ⟨gb299, 1, none⟩ = some (.int .i64 a1_1) := (blk_cell BK299.out 1).trans rfl; have hfz40_0 := blk_frozen BK299.out 0; have hfz40_1 := blk_frozen BK299.out 1) | ((with_reducible refine gate_callee (f := 27) rfl ?_); refine goesL_ (some 43) rfl rfl Try.func27 (by kernel_rfl) rfl #[.agg #[.slice A0_0 l0_0.length c0_0, .int .i64 a0_1], .agg #[.slice A1_0 l1_0.length c1_0, .int .i64 a1_1]] rfl (by (try simp only [List.map_toArray, List.map_cons, List.map_nil]); first | done | rfl | (simp only [List.length_drop, List.length_take]; rfl)) ?_; (with_reducible refine (standbyref55_Backlog.calls kj2 _ _ l0_0 a0_1 _ _ l1_0 a1_1 t310 t311 _ ?side1 ?side2 ?side3 ?side4 A23.out).mono ?_); (case side1 => exact qC HR0_0.out HB.out); (case side2 => exact HC0_0.out); (case side3 => exact qC HR1_0.out HB.out); (case side4 => exact HC1_0.out); rintro e w41 ⟨rfl, hb⟩; refine ⟨_, rfl, ?_⟩; have n0_ := Aside0.mk (blk_below (qB BK298.out) hb); have n1_ := Aside0.mk (blk_below (qB BK299.out) hb); have n2_ := Aside0.mk (below_step (qW HB.out) hb); clear BK298 BK299 HB; have BK298 := n0_; have BK299 := n1_; have HB := n2_; clear n0_ n1_ n2_; (try clear hb); (try clear hb2); (try clear hk); (try clear hi)) | (go_at_call 11; (with_reducible refine (standbylaw55_awake.calls kj2  t312 _ A28.out).mono ?_); rintro e w42 ⟨rfl, hb⟩; have n0_ := Aside0.mk (blk_below (qB BK298.out) hb); have n1_ := Aside0.mk (blk_below (qB BK299.out) hb); have n2_ := Aside0.mk (below_step (qW HB.out) hb); clear BK298 BK299 HB; have BK298 := n0_; have BK299 := n1_; have HB := n2_; clear n0_ n1_ n2_; (try clear hb); (try clear hb2); (try clear hk); (try clear hi)))
    go_ret
    exact ⟨by first | rfl | (simp [errW_none, errW_some] <;> rfl) | (simp [*, errW_none, errW_some] <;> rfl), by repeat (first | (with_reducible first | exact HB.out | apply below_alloc | apply pw_below_drewN | apply below_drew1 | refine below_set ?_ GE298.out | refine below_set ?_ GE299.out) | exact HB.out)⟩
end Go.Proofs.Ytanlonngekgibaa.Pr

-- Written by pp.py, a program of this session, over the translation of the given program; a machine's text: Lean checks it.
import Derived.Test.YtanlonngekgibaaGShort
import Derived.Test.YtanlonngekgibaaF17
import Derived.Test.YtanlonngekgibaaF45
namespace Go.Proofs.Ytanlonngekgibaa.Pr
open Go.RowKit Go.Proofs.YtanlonngekgibaaW.PrintWords Go.Proofs.YtanlonngekgibaaW.PrintLast Go.Proofs.YtanlonngekgibaaW.PrintMore
attribute [local go_sem] max2_int min2_int max_two min_two max_three min_three max_four min_four   -- for this text's walks alone
set_option linter.unusedVariables false
set_option linter.unusedSimpArgs false

/-! ### standbyref55_At: function 19 -/
def standbyref55_At.f (k : Nat) (l0_0 : List Int) (a0_1 : Int) (a1 : Int) : Option (Int) := (standbyref55_Check.f k l0_0 a0_1).bind fun t224 => (if t224 = 0 then (if a1 < 0 then (some 0) else ((standbyref55_value.f l0_0 a0_1 (mn a1 1073741824)).bind fun t225 => (some t225))) else (some 0))
theorem standbyref55_At.mono : ∀ a0 a1 a2 k, LeO (standbyref55_At.f k a0 a1 a2) (standbyref55_At.f (k + 1) a0 a1 a2) := by
 intro a0 a1 a2 k
 unfold standbyref55_At.f
 repeat' first
   | (with_reducible exact standbyref55_Check.mono _ _ _)
   | (with_reducible exact LeO.refl _)
   | (with_reducible exact LeO.none _)
   | (with_reducible refine LeO.ite ?_ ?_)
   | (with_reducible refine LeO.bind ?_ (fun _ => ?_))
   | exact standbyref55_Check.mono _ _ _
   | exact LeO.none _
   | refine LeO.ite ?_ ?_
   | refine LeO.bind ?_ (fun _ => ?_)
set_option maxHeartbeats 8000000 in
set_option maxRecDepth 100000 in
theorem standbyref55_At.calls (k : Nat) (A0_0 : Option Addr) (c0_0 : Nat) (l0_0 : List Int) (a0_1 : Int) (a1 : Int) (r : Int) (w : World) (hr0_0 : Kd.C (Kd.int .i64) w A0_0 l0_0.length l0_0) (hc0_0 : l0_0.length ≤ c0_0) (h : standbyref55_At.f k l0_0 a0_1 a1 = some r) :
  Calls Try.prog 19 #[.agg #[.slice A0_0 l0_0.length c0_0, .int .i64 a0_1], .int .i64 a1] w fun e w' => e = .returned (.int .i64 r) ∧ Below w.heap.size w w' := by
 have hu24 := Try.underlying24
 have HR0_0 := Aside0.mk hr0_0
 have HC0_0 := Aside0.mk hc0_0
 clear hr0_0 hc0_0
 have HB := Aside0.mk (Below.refl w.heap.size w)
 have H : ((standbyref55_Check.f k l0_0 a0_1).bind fun t224 => (if t224 = 0 then (if a1 < 0 then (some 0) else ((standbyref55_value.f l0_0 a0_1 (mn a1 1073741824)).bind fun t225 => (some t225))) else (some 0))) = some r := h
 clear h
 replace H := Option.bind_eq_some_iff.mp H
 obtain ⟨t224, A30, H⟩ := H
 replace H : (if t224 = 0 then (if a1 < 0 then (some 0) else ((standbyref55_value.f l0_0 a0_1 (mn a1 1073741824)).bind fun t225 => (some t225))) else (some 0)) = some r := H
 have A3 := Aside0.mk A30
 clear A30
 by_cases c4 : t224 = 0
 case neg =>
  rw [if_neg c4] at H
  have c4b0 : (t224 == 0) = false := beq_eq_false_iff_ne.mpr c4
  have c4b1 : (t224 != 0) = true := bne_iff_ne.mpr c4
  obtain rfl := Option.some.inj H
  go_enter Try.func19, Try.ntmps19
  go_wp2_with (first | ((with_reducible refine gate_dst (N := 2) rfl ?_); refine box_event ?hg (N := 2) ?hd (cs := #[.slice A0_0 l0_0.length c0_0, .int .i64 a0_1]) (t := 24) ?hr ?_; (case hd => rfl); (case hg => rfl); (case hr => first | (go_simp; done) | (go_simp; rfl)); intro gb223 hg w16 hbox hb; have n0_ := Aside0.mk (below_step (qW HB.out) hb); have n1_ := Aside0.mk (hbox); have n2_ := Aside0.mk ((by rw [hg]; exact (below_size (qW HB.out)) : w.heap.size ≤ gb223)); have n3_ := Aside0.mk ((by rw [hg]; exact (below_size (qW HB.out)) : w.heap.size ≤ gb223)); clear HB; have HB := n0_; have BK223 := n1_; have GW223 := n2_; have GE223 := n3_; clear n0_ n1_ n2_ n3_ hb hbox hg; have hcz17_0 : w16.cell? ⟨gb223, 0, none⟩ = some (.slice A0_0 l0_0.length c0_0) := (blk_cell BK223.out 0).trans rfl; have hcz17_1 : w16.cell? ⟨gb223, 1, none⟩ = some (.int .i64 a0_1) := (blk_cell BK223.out 1).trans rfl; have hfz17_0 := blk_frozen BK223.out 0; have hfz17_1 := blk_frozen BK223.out 1) | ((with_reducible refine gate_callee (f := 17) rfl ?_); refine goesL_ (some 6) rfl rfl Try.func17 (by kernel_rfl) rfl #[.agg #[.slice A0_0 l0_0.length c0_0, .int .i64 a0_1]] rfl (by (try simp only [List.map_toArray, List.map_cons, List.map_nil]); first | done | rfl | (simp only [List.length_drop, List.length_take]; rfl)) ?_; (with_reducible refine (standbyref55_Check.calls k _ _ l0_0 a0_1 t224 _ ?side1 ?side2 A3.out).mono ?_); (case side1 => exact qC HR0_0.out HB.out); (case side2 => exact HC0_0.out); rintro e w18 ⟨rfl, hb⟩; refine ⟨_, rfl, ?_⟩; have n0_ := Aside0.mk (blk_below (qB BK223.out) hb); have n1_ := Aside0.mk (below_step (qW HB.out) hb); clear BK223 HB; have BK223 := n0_; have HB := n1_; clear n0_ n1_; (try clear hb); (try clear hb2); (try clear hk); (try clear hi)))
  go_ret
  exact ⟨by first | rfl | (simp [errW_none, errW_some] <;> rfl) | (simp [*, errW_none, errW_some] <;> rfl), by repeat (first | (with_reducible first | exact HB.out | apply below_alloc | apply pw_below_drewN | apply below_drew1 | refine below_set ?_ GE223.out) | exact HB.out)⟩

 rw [if_pos c4] at H
 have c4b0 : (t224 == 0) = true := beq_iff_eq.mpr c4
 have c4b1 : (t224 != 0) = false := bne_eq_false_iff_eq.mpr c4
 clear c4
 by_cases c5 : a1 < 0
 ·rw [if_pos c5] at H
  have c5b0 : decide (a1 < 0) = true := decide_eq_true c5
  clear c5
  obtain rfl := Option.some.inj H
  go_enter Try.func19, Try.ntmps19
  go_wp2_with (first | ((with_reducible refine gate_dst (N := 2) rfl ?_); refine box_event ?hg (N := 2) ?hd (cs := #[.slice A0_0 l0_0.length c0_0, .int .i64 a0_1]) (t := 24) ?hr ?_; (case hd => rfl); (case hg => rfl); (case hr => first | (go_simp; done) | (go_simp; rfl)); intro gb223 hg w6 hbox hb; have n0_ := Aside0.mk (below_step (qW HB.out) hb); have n1_ := Aside0.mk (hbox); have n2_ := Aside0.mk ((by rw [hg]; exact (below_size (qW HB.out)) : w.heap.size ≤ gb223)); have n3_ := Aside0.mk ((by rw [hg]; exact (below_size (qW HB.out)) : w.heap.size ≤ gb223)); clear HB; have HB := n0_; have BK223 := n1_; have GW223 := n2_; have GE223 := n3_; clear n0_ n1_ n2_ n3_ hb hbox hg; have hcz7_0 : w6.cell? ⟨gb223, 0, none⟩ = some (.slice A0_0 l0_0.length c0_0) := (blk_cell BK223.out 0).trans rfl; have hcz7_1 : w6.cell? ⟨gb223, 1, none⟩ = some (.int .i64 a0_1) := (blk_cell BK223.out 1).trans rfl; have hfz7_0 := blk_frozen BK223.out 0; have hfz7_1 := blk_frozen BK223.out 1) | ((with_reducible refine gate_callee (f := 17) rfl ?_); refine goesL_ (some 6) rfl rfl Try.func17 (by kernel_rfl) rfl #[.agg #[.slice A0_0 l0_0.length c0_0, .int .i64 a0_1]] rfl (by (try simp only [List.map_toArray, List.map_cons, List.map_nil]); first | done | rfl | (simp only [List.length_drop, List.length_take]; rfl)) ?_; (with_reducible refine (standbyref55_Check.calls k _ _ l0_0 a0_1 t224 _ ?side1 ?side2 A3.out).mono ?_); (case side1 => exact qC HR0_0.out HB.out); (case side2 => exact HC0_0.out); rintro e w8 ⟨rfl, hb⟩; refine ⟨_, rfl, ?_⟩; have n0_ := Aside0.mk (blk_below (qB BK223.out) hb); have n1_ := Aside0.mk (below_step (qW HB.out) hb); clear BK223 HB; have BK223 := n0_; have HB := n1_; clear n0_ n1_; (try clear hb); (try clear hb2); (try clear hk); (try clear hi)))
  go_ret
  exact ⟨by first | rfl | (simp [errW_none, errW_some] <;> rfl) | (simp [*, errW_none, errW_some] <;> rfl), by repeat (first | (with_reducible first | exact HB.out | apply below_alloc | apply pw_below_drewN | apply below_drew1 | refine below_set ?_ GE223.out) | exact HB.out)⟩
 ·rw [if_neg c5] at H
  have c5b0 : decide (a1 < 0) = false := decide_eq_false c5
  clear c5
  obtain ⟨ji9, hji9⟩ : ∃ j_ : Int, (mn a1 1073741824) = j_ := ⟨_, rfl⟩
  replace H : ((standbyref55_value.f l0_0 a0_1 (ji9)).bind fun t225 => (some t225)) = some r := by first | (rw [hji9] at H; exact H) | (simp only [hji9] at H ⊢; exact H)
  (try rw [hji9] at A3)
  (try (have hji9h : ji9 ≤ 1073741824 := by (rw [← hji9]; unfold mn; (repeat' split) <;> omega)))
  (try (have hji9g : ji9 ≤ 64 := by omega))
  have hji9_ : (if 1073741824 < a1 then 1073741824 else a1) = ji9 := hji9
  replace H := Option.bind_eq_some_iff.mp H
  obtain ⟨t225, A100, H⟩ := H
  replace H : (some t225) = some r := H
  have A10 := Aside0.mk A100
  clear A100
  obtain rfl := Option.some.inj H
  go_enter Try.func19, Try.ntmps19
  go_wp2_with (first | ((with_reducible refine gate_dst (N := 2) rfl ?_); refine box_event ?hg (N := 2) ?hd (cs := #[.slice A0_0 l0_0.length c0_0, .int .i64 a0_1]) (t := 24) ?hr ?_; (case hd => rfl); (case hg => rfl); (case hr => first | (go_simp; done) | (go_simp; rfl)); intro gb223 hg w11 hbox hb; have n0_ := Aside0.mk (below_step (qW HB.out) hb); have n1_ := Aside0.mk (hbox); have n2_ := Aside0.mk ((by rw [hg]; exact (below_size (qW HB.out)) : w.heap.size ≤ gb223)); have n3_ := Aside0.mk ((by rw [hg]; exact (below_size (qW HB.out)) : w.heap.size ≤ gb223)); clear HB; have HB := n0_; have BK223 := n1_; have GW223 := n2_; have GE223 := n3_; clear n0_ n1_ n2_ n3_ hb hbox hg; have hcz12_0 : w11.cell? ⟨gb223, 0, none⟩ = some (.slice A0_0 l0_0.length c0_0) := (blk_cell BK223.out 0).trans rfl; have hcz12_1 : w11.cell? ⟨gb223, 1, none⟩ = some (.int .i64 a0_1) := (blk_cell BK223.out 1).trans rfl; have hfz12_0 := blk_frozen BK223.out 0; have hfz12_1 := blk_frozen BK223.out 1) | ((with_reducible refine gate_callee (f := 17) rfl ?_); refine goesL_ (some 6) rfl rfl Try.func17 (by kernel_rfl) rfl #[.agg #[.slice A0_0 l0_0.length c0_0, .int .i64 a0_1]] rfl (by (try simp only [List.map_toArray, List.map_cons, List.map_nil]); first | done | rfl | (simp only [List.length_drop, List.length_take]; rfl)) ?_; (with_reducible refine (standbyref55_Check.calls k _ _ l0_0 a0_1 t224 _ ?side1 ?side2 A3.out).mono ?_); (case side1 => exact qC HR0_0.out HB.out); (case side2 => exact HC0_0.out); rintro e w13 ⟨rfl, hb⟩; refine ⟨_, rfl, ?_⟩; have n0_ := Aside0.mk (blk_below (qB BK223.out) hb); have n1_ := Aside0.mk (below_step (qW HB.out) hb); clear BK223 HB; have BK223 := n0_; have HB := n1_; clear n0_ n1_; (try clear hb); (try clear hb2); (try clear hk); (try clear hi); have hcz14_0 : w13.cell? ⟨gb223, 0, none⟩ = some (.slice A0_0 l0_0.length c0_0) := (blk_cell BK223.out 0).trans rfl; have hcz14_1 : w13.cell? ⟨gb223, 1, none⟩ = some (.int .i64 a0_1) := (blk_cell BK223.out 1).trans rfl; have hfz14_0 := blk_frozen BK223.out 0; have hfz14_1 := blk_frozen BK223.out 1) | ((with_reducible refine gate_callee (f := 45) rfl ?_); refine goesL_ (some 15) rfl rfl Try.func45 (by kernel_rfl) rfl #[.agg #[.slice A0_0 l0_0.length c0_0, .int .i64 a0_1], .int .i64 ji9] rfl (by (try simp only [List.map_toArray, List.map_cons, List.map_nil]); first | done | (simp only [hji9]; rfl) | rfl | (simp only [List.length_drop, List.length_take]; rfl)) ?_; (with_reducible refine (standbyref55_value.calls _ _ l0_0 a0_1 ji9 t225 _ ?side1 ?side2 A10.out).mono ?_); (case side1 => exact qC HR0_0.out HB.out); (case side2 => exact HC0_0.out); rintro e w15 ⟨rfl, hb⟩; refine ⟨_, rfl, ?_⟩; have n0_ := Aside0.mk (blk_below (qB BK223.out) hb); have n1_ := Aside0.mk (below_step (qW HB.out) hb); clear BK223 HB; have BK223 := n0_; have HB := n1_; clear n0_ n1_; (try clear hb); (try clear hb2); (try clear hk); (try clear hi)))
  go_ret
  exact ⟨by first | rfl | (simp [errW_none, errW_some] <;> rfl) | (simp only [← hji9]; first | rfl | (simp [errW_none, errW_some] <;> rfl)) | (simp [*, errW_none, errW_some] <;> rfl), by repeat (first | (with_reducible first | exact HB.out | apply below_alloc | apply pw_below_drewN | apply below_drew1 | refine below_set ?_ GE223.out) | exact HB.out)⟩
end Go.Proofs.Ytanlonngekgibaa.Pr

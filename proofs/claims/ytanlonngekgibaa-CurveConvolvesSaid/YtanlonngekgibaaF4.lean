-- Written by pp.py, a program of this session, over the translation of the given program; a machine's text: Lean checks it.
import Derived.Test.YtanlonngekgibaaGShort
import Derived.Test.YtanlonngekgibaaF11
import Derived.Test.YtanlonngekgibaaF20
import Derived.Test.YtanlonngekgibaaF22
import Derived.Test.YtanlonngekgibaaGConv
namespace Go.Proofs.Ytanlonngekgibaa.Pr
open Go.RowKit Go.Proofs.YtanlonngekgibaaW.PrintWords Go.Proofs.YtanlonngekgibaaW.PrintLast Go.Proofs.YtanlonngekgibaaW.PrintMore
attribute [local go_sem] max2_int min2_int max_two min_two max_three min_three max_four min_four   -- for this text's walks alone
set_option linter.unusedVariables false
set_option linter.unusedSimpArgs false

/-! ### standbylaw55_CurveConvolves: function 4 -/
def standbylaw55_CurveConvolves.j0 : Nat → Bool → List Int → Int → List Int → Int → Option (Bool)
 | 0, _, _, _, _, _ => none
 | k + 1, x18, x265000, x265001, x266000, x266001 => if x18 = true then ((standbylaw55_awake.f k).bind fun t267 => (some t267)) else ((curve_Convolve.f k x265000 x265001 x266000 x266001).bind fun bt268 => ((standbyref55_Convolve.f k x265000 x265001 x266000 x266001).bind fun bt274 => ((standbyref55_Same.f k bt268.1 bt268.2.1 bt274.1 bt274.2.1).bind fun t280 => (if t280 = true then (if bt268.2.2 = bt274.2.2 then ((standbylaw55_awake.f k).bind fun t281 => (some t281)) else (none)) else (none)))))
def standbylaw55_CurveConvolves.f (k : Nat) (l0_0 : List Int) (a0_1 : Int) (l1_0 : List Int) (a1_1 : Int) : Option (Bool) := if (l0_0.length : Int) > 20 then (standbylaw55_CurveConvolves.j0 k true l0_0 a0_1 l1_0 a1_1) else (standbylaw55_CurveConvolves.j0 k (decide ((l1_0.length : Int) > 20)) l0_0 a0_1 l1_0 a1_1)
set_option maxHeartbeats 8000000 in
set_option maxRecDepth 100000 in
theorem standbylaw55_CurveConvolves.calls (k : Nat) (A0_0 : Option Addr) (c0_0 : Nat) (l0_0 : List Int) (a0_1 : Int) (A1_0 : Option Addr) (c1_0 : Nat) (l1_0 : List Int) (a1_1 : Int) (r : Bool) (w : World) (hr0_0 : Kd.C (Kd.int .i64) w A0_0 l0_0.length l0_0) (hc0_0 : l0_0.length ≤ c0_0) (hr1_0 : Kd.C (Kd.int .i64) w A1_0 l1_0.length l1_0) (hc1_0 : l1_0.length ≤ c1_0) (h : standbylaw55_CurveConvolves.f k l0_0 a0_1 l1_0 a1_1 = some r) :
  Calls Try.prog 4 #[.agg #[.slice A0_0 l0_0.length c0_0, .int .i64 a0_1], .agg #[.slice A1_0 l1_0.length c1_0, .int .i64 a1_1]] w fun e w' => e = .returned (.bool r) ∧ Below w.heap.size w w' := by
 have hu24 := Try.underlying24
 have HR0_0 := Aside0.mk hr0_0
 have HC0_0 := Aside0.mk hc0_0
 clear hr0_0 hc0_0
 have HR1_0 := Aside0.mk hr1_0
 have HC1_0 := Aside0.mk hc1_0
 clear hr1_0 hc1_0
 have HB := Aside0.mk (Below.refl w.heap.size w)
 have H : (if (l0_0.length : Int) > 20 then (standbylaw55_CurveConvolves.j0 k true l0_0 a0_1 l1_0 a1_1) else (standbylaw55_CurveConvolves.j0 k (decide ((l1_0.length : Int) > 20)) l0_0 a0_1 l1_0 a1_1)) = some r := h
 clear h
 have HC3 := Aside0.mk H
 clear H
 go_enter Try.func4, Try.ntmps4
 go_upto_region 1 with (first | ((with_reducible refine gate_dst (N := 2) rfl ?_); (try (refine gate_guard (by rfl) ?_; dsimp only)); refine box_event ?hg (N := 2) ?hd (cs := #[.slice A0_0 l0_0.length c0_0, .int .i64 a0_1]) (t := 24) ?hr ?_; (case hd => rfl); (case hg => rfl); (case hr => first | (go_simp; done) | (go_simp; rfl)); intro gb264 hg w4 hbox hb; have n0_ := Aside0.mk (below_step (qW HB.out) hb); have n1_ := Aside0.mk (hbox); have n2_ := Aside0.mk ((by rw [hg]; exact (below_size (qW HB.out)) : w.heap.size ≤ gb264)); have n3_ := Aside0.mk ((by rw [hg]; exact (below_size (qW HB.out)) : w.heap.size ≤ gb264)); clear HB; have HB := n0_; have BK264 := n1_; have GW264 := n2_; have GE264 := n3_; clear n0_ n1_ n2_ n3_ hb hbox hg) | ((with_reducible refine gate_dst (N := 3) rfl ?_); (try (refine gate_guard (by rfl) ?_; dsimp only)); refine box_event ?hg (N := 3) ?hd (cs := #[.slice A1_0 l1_0.length c1_0, .int .i64 a1_1]) (t := 24) ?hr ?_; (case hd => rfl); (case hg => rfl); (case hr => first | (go_simp; done) | (go_simp; rfl)); intro gb265 hg w5 hbox hb; have n0_ := Aside0.mk (blk_below (qB BK264.out) hb); have n1_ := Aside0.mk (below_step (qW HB.out) hb); have n2_ := Aside0.mk (hbox); have n3_ := Aside0.mk ((by rw [hg]; exact (below_size (qW HB.out)) : w.heap.size ≤ gb265)); have n4_ := Aside0.mk ((by rw [hg]; exact (below_size (qW HB.out)) : w.heap.size ≤ gb265)); have n5_ := Aside0.mk ((by rw [hg]; exact Nat.ne_of_lt (blk_lt (qB BK264.out)) : gb264 ≠ gb265)); have n6_ := Aside0.mk ((by rw [hg]; exact Nat.ne_of_gt (blk_lt (qB BK264.out)) : gb265 ≠ gb264)); clear BK264 HB; have BK264 := n0_; have HB := n1_; have BK265 := n2_; have GW265 := n3_; have GE265 := n4_; have NB264_265 := n5_; have NB265_264 := n6_; clear n0_ n1_ n2_ n3_ n4_ n5_ n6_ hb hbox hg))
 (try simp only [Act.put, List.setIfInBounds_toArray, List.set_cons_zero, List.set_cons_succ])
 go_cut [18] (fun v18 wc => ∃ (kq : Nat) (x18_2 : Bool), v18 = .bool x18_2 ∧ Aside0 (standbylaw55_CurveConvolves.j0 kq x18_2 l0_0 a0_1 l1_0 a1_1 = some r) ∧ Aside0 (kq ≤ k) ∧ Aside0 (wc.heap[gb264]? = some (.cells #[(.slice A0_0 l0_0.length c0_0), .int .i64 a0_1] 24 (0, 0))) ∧ Aside0 (wc.heap[gb265]? = some (.cells #[(.slice A1_0 l1_0.length c1_0), .int .i64 a1_1] 24 (0, 0))) ∧ Aside0 (Below w.heap.size w wc))
 case first =>
  have H := HC3.out
  clear HC3
  by_cases c6 : (l0_0.length : Int) > 20
  ·rw [if_pos c6] at H
   have c6b0 : decide (20 < (l0_0.length : Int)) = true := decide_eq_true c6
   have c6b1 : decide (20 < l0_0.length) = true := decide_eq_true (by omega)
   clear c6
   (first | rw [c6b0] | (simp only [i64_w, i32_w]; rw [c6b0]) | skip)
   have H' := Aside0.mk H
   clear H
   have hnb7 := NB264_265.out
   have hnc7 := NB265_264.out
   have hcz8_0 : w5.cell? ⟨gb264, 0, none⟩ = some (.slice A0_0 l0_0.length c0_0) := (blk_cell BK264.out 0).trans rfl
   have hcz8_1 : w5.cell? ⟨gb264, 1, none⟩ = some (.int .i64 a0_1) := (blk_cell BK264.out 1).trans rfl
   have hfz8_0 := blk_frozen BK264.out 0
   have hfz8_1 := blk_frozen BK264.out 1
   go_wp2
   go_meet
   case rel => exact ⟨_, (true), (by first | rfl | (simp; done) | (simp [*]; done)), H', ⟨by first | omega | exact Nat.le_refl _⟩, ⟨by exact qB BK264.out⟩, ⟨by exact qB BK265.out⟩, ⟨by repeat (first | (with_reducible first | exact HB.out | apply below_alloc | apply pw_below_drewN | apply below_drew1 | refine below_set ?_ GE264.out | refine below_set ?_ GE265.out) | exact HB.out)⟩⟩
  ·rw [if_neg c6] at H
   have c6b0 : decide (20 < (l0_0.length : Int)) = false := decide_eq_false c6
   have c6b1 : decide (20 < l0_0.length) = false := decide_eq_false (by omega)
   clear c6
   (first | rw [c6b0] | (simp only [i64_w, i32_w]; rw [c6b0]) | skip)
   have H' := Aside0.mk H
   clear H
   have hnb9 := NB264_265.out
   have hnc9 := NB265_264.out
   have hcz10_0 : w5.cell? ⟨gb264, 0, none⟩ = some (.slice A0_0 l0_0.length c0_0) := (blk_cell BK264.out 0).trans rfl
   have hcz10_1 : w5.cell? ⟨gb264, 1, none⟩ = some (.int .i64 a0_1) := (blk_cell BK264.out 1).trans rfl
   have hfz10_0 := blk_frozen BK264.out 0
   have hfz10_1 := blk_frozen BK264.out 1
   have hcz11_0 : w5.cell? ⟨gb265, 0, none⟩ = some (.slice A1_0 l1_0.length c1_0) := (blk_cell BK265.out 0).trans rfl
   have hcz11_1 : w5.cell? ⟨gb265, 1, none⟩ = some (.int .i64 a1_1) := (blk_cell BK265.out 1).trans rfl
   have hfz11_0 := blk_frozen BK265.out 0
   have hfz11_1 := blk_frozen BK265.out 1
   go_wp2
   go_meet
   case rel => exact ⟨_, (decide ((l1_0.length : Int) > 20)), (by first | rfl | (simp; done) | (simp [*]; done)), H', ⟨by first | omega | exact Nat.le_refl _⟩, ⟨by exact qB BK264.out⟩, ⟨by exact qB BK265.out⟩, ⟨by repeat (first | (with_reducible first | exact HB.out | apply below_alloc | apply pw_below_drewN | apply below_drew1 | refine below_set ?_ GE264.out | refine below_set ?_ GE265.out) | exact HB.out)⟩⟩
 case rest =>
  clear HC3
  try clear c1
  try clear p2
  try clear c4
  try clear c6
  try clear c6b0
  try clear c6b1
  try clear c7
  try clear c9
  try clear hcz10_0
  try clear hcz10_1
  try clear hcz11_0
  try clear hcz11_1
  try clear hcz8_0
  try clear hcz8_1
  try clear hfz10_0
  try clear hfz10_1
  try clear hfz11_0
  try clear hfz11_1
  try clear hfz8_0
  try clear hfz8_1
  obtain ⟨kq, x18_2, rfl, HA, HJ2, BK264, BK265, HB⟩ := hcut
  cases kq with
  | zero => exact absurd HA.out (by simp [standbylaw55_CurveConvolves.j0])
  | succ kj2 =>
   have H := HA.out
   clear HA
   simp only [standbylaw55_CurveConvolves.j0] at H
   by_cases c12 : x18_2 = true
   ·subst c12
    have H1 : ((standbylaw55_awake.f kj2).bind fun t267 => (some t267)) = some r := by rw [if_pos rfl] at H; exact H
    clear H
    have H := H1
    clear H1
    replace H := Option.bind_eq_some_iff.mp H
    obtain ⟨t267, A130, H⟩ := H
    replace H : (some t267) = some r := H
    have A13 := Aside0.mk A130
    clear A130
    obtain rfl := Option.some.inj H
    go_wp2_with (first | ((with_reducible refine gate_callee (f := 11) rfl ?_); refine goesL_ (some 19) rfl rfl Try.func11 (by kernel_rfl) rfl #[] rfl (by (try simp only [List.map_toArray, List.map_cons, List.map_nil]); first | done | rfl | (simp only [List.length_drop, List.length_take]; rfl)) ?_; (with_reducible refine (standbylaw55_awake.calls kj2  t267 _ A13.out).mono ?_); rintro e w14 ⟨rfl, hb⟩; refine ⟨_, rfl, ?_⟩; have n0_ := Aside0.mk (blk_below (qB BK264.out) hb); have n1_ := Aside0.mk (blk_below (qB BK265.out) hb); have n2_ := Aside0.mk (below_step (qW HB.out) hb); clear BK264 BK265 HB; have BK264 := n0_; have BK265 := n1_; have HB := n2_; clear n0_ n1_ n2_; (try clear hb); (try clear hb2); (try clear hk); (try clear hi)))
    go_ret
    exact ⟨by first | rfl | (simp [errW_none, errW_some] <;> rfl) | (simp [*, errW_none, errW_some] <;> rfl), by repeat (first | (with_reducible first | exact HB.out | apply below_alloc | apply pw_below_drewN | apply below_drew1 | refine below_set ?_ GE264.out | refine below_set ?_ GE265.out) | exact HB.out)⟩
   ·replace c12 := Bool.eq_false_iff.mpr c12
    subst c12
    have H1 : ((curve_Convolve.f kj2 l0_0 a0_1 l1_0 a1_1).bind fun bt268 => ((standbyref55_Convolve.f kj2 l0_0 a0_1 l1_0 a1_1).bind fun bt274 => ((standbyref55_Same.f kj2 bt268.1 bt268.2.1 bt274.1 bt274.2.1).bind fun t280 => (if t280 = true then (if bt268.2.2 = bt274.2.2 then ((standbylaw55_awake.f kj2).bind fun t281 => (some t281)) else (none)) else (none))))) = some r := by rw [if_neg (show ¬ (false = true) by decide)] at H; exact H
    clear H
    have H := H1
    clear H1
    replace H := Option.bind_eq_some_iff.mp H
    obtain ⟨⟨t268, t271, t272⟩, A150, H⟩ := H
    replace H : ((standbyref55_Convolve.f kj2 l0_0 a0_1 l1_0 a1_1).bind fun bt274 => ((standbyref55_Same.f kj2 t268 t271 bt274.1 bt274.2.1).bind fun t280 => (if t280 = true then (if t272 = bt274.2.2 then ((standbylaw55_awake.f kj2).bind fun t281 => (some t281)) else (none)) else (none)))) = some r := H
    have A15 := Aside0.mk A150
    clear A150
    replace H := Option.bind_eq_some_iff.mp H
    obtain ⟨⟨t274, t277, t278⟩, A160, H⟩ := H
    replace H : ((standbyref55_Same.f kj2 t268 t271 t274 t277).bind fun t280 => (if t280 = true then (if t272 = t278 then ((standbylaw55_awake.f kj2).bind fun t281 => (some t281)) else (none)) else (none))) = some r := H
    have A16 := Aside0.mk A160
    clear A160
    replace H := Option.bind_eq_some_iff.mp H
    obtain ⟨t280, A170, H⟩ := H
    replace H : (if t280 = true then (if t272 = t278 then ((standbylaw55_awake.f kj2).bind fun t281 => (some t281)) else (none)) else (none)) = some r := H
    have A17 := Aside0.mk A170
    clear A170
    by_cases c18 : t280 = true
    case neg =>
     replace c18 := Bool.eq_false_iff.mpr c18
     subst c18
     have H1 : (none) = some r := by rw [if_neg (show ¬ (false = true) by decide)] at H; exact H
     clear H
     have H := H1
     clear H1
     exact absurd H (by simp)

    subst c18
    have H1 : (if t272 = t278 then ((standbylaw55_awake.f kj2).bind fun t281 => (some t281)) else (none)) = some r := by rw [if_pos rfl] at H; exact H
    clear H
    have H := H1
    clear H1
    by_cases c19 : t272 = t278
    case neg =>
     rw [if_neg c19] at H
     exact absurd H (by simp)
    rw [if_pos c19] at H
    have c19b0 : (t272 == t278) = true := beq_iff_eq.mpr c19
    have c19b1 : (t272 != t278) = false := bne_eq_false_iff_eq.mpr c19
    clear c19
    replace H := Option.bind_eq_some_iff.mp H
    obtain ⟨t281, A200, H⟩ := H
    replace H : (some t281) = some r := H
    have A20 := Aside0.mk A200
    clear A200
    obtain rfl := Option.some.inj H
    have hnb21 := NB264_265.out
    have hnc21 := NB265_264.out
    have hcz22_0 : wc.cell? ⟨gb264, 0, none⟩ = some (.slice A0_0 l0_0.length c0_0) := (blk_cell BK264.out 0).trans rfl
    have hcz22_1 : wc.cell? ⟨gb264, 1, none⟩ = some (.int .i64 a0_1) := (blk_cell BK264.out 1).trans rfl
    have hfz22_0 := blk_frozen BK264.out 0
    have hfz22_1 := blk_frozen BK264.out 1
    have hcz23_0 : wc.cell? ⟨gb265, 0, none⟩ = some (.slice A1_0 l1_0.length c1_0) := (blk_cell BK265.out 0).trans rfl
    have hcz23_1 : wc.cell? ⟨gb265, 1, none⟩ = some (.int .i64 a1_1) := (blk_cell BK265.out 1).trans rfl
    have hfz23_0 := blk_frozen BK265.out 0
    have hfz23_1 := blk_frozen BK265.out 1
    go_wp2_with (first | ((with_reducible refine gate_callee (f := 21) rfl ?_); refine goesL_ (some 23) rfl rfl Try.func21 (by kernel_rfl) rfl #[.agg #[.slice A0_0 l0_0.length c0_0, .int .i64 a0_1], .agg #[.slice A1_0 l1_0.length c1_0, .int .i64 a1_1]] rfl (by (try simp only [List.map_toArray, List.map_cons, List.map_nil]); first | done | rfl | (simp only [List.length_drop, List.length_take]; rfl)) ?_; (with_reducible refine (curve_Convolve.calls kj2 _ _ l0_0 a0_1 _ _ l1_0 a1_1 t268 t271 t272 _ ?side1 ?side2 ?side3 ?side4 A15.out).mono ?_); (case side1 => exact qC HR0_0.out HB.out); (case side2 => exact HC0_0.out); (case side3 => exact qC HR1_0.out HB.out); (case side4 => exact HC1_0.out); rintro e w24 ⟨v269, rfl, ho0, hb⟩; refine ⟨_, rfl, ?_⟩; have n0_ := Aside0.mk (Kd.R_lower ho0 (below_size (qW HB.out))); have n1_ := Aside0.mk (blk_below (qB BK264.out) hb); have n2_ := Aside0.mk (blk_below (qB BK265.out) hb); have n3_ := Aside0.mk (below_step (qW HB.out) hb); clear BK264 BK265 HB; have HO270 := n0_; have BK264 := n1_; have BK265 := n2_; have HB := n3_; clear n0_ n1_ n2_ n3_; (try clear hb); (try clear hb2); (try clear hk); (try clear hi); (try clear ho0)) | ((with_reducible refine gate_dst (N := 5) rfl ?_); (try (refine gate_guard (by rfl) ?_; dsimp only)); refine box_event ?hg (N := 5) ?hd (cs := #[.slice none 0 0, .int .i64 0]) (t := 24) ?hr ?_; (case hd => rfl); (case hg => rfl); (case hr => first | (go_simp; done) | (go_simp; rfl)); intro gb273 hg w25 hbox hb; have n0_ := Aside0.mk (Kd.R_below (qR HO270.out) hb); have n1_ := Aside0.mk (blk_below (qB BK264.out) hb); have n2_ := Aside0.mk (blk_below (qB BK265.out) hb); have n3_ := Aside0.mk (below_step (qW HB.out) hb); have n4_ := Aside0.mk (hbox); have n5_ := Aside0.mk ((by rw [hg]; exact (below_size (qW HB.out)) : w.heap.size ≤ gb273)); have n6_ := Aside0.mk ((by rw [hg]; exact (below_size (qW HB.out)) : w.heap.size ≤ gb273)); have n7_ := Aside0.mk ((by rw [hg]; exact Nat.ne_of_lt (blk_lt (qB BK264.out)) : gb264 ≠ gb273)); have n8_ := Aside0.mk ((by rw [hg]; exact Nat.ne_of_gt (blk_lt (qB BK264.out)) : gb273 ≠ gb264)); have n9_ := Aside0.mk ((by rw [hg]; exact Nat.ne_of_lt (blk_lt (qB BK265.out)) : gb265 ≠ gb273)); have n10_ := Aside0.mk ((by rw [hg]; exact Nat.ne_of_gt (blk_lt (qB BK265.out)) : gb273 ≠ gb265)); clear HO270 BK264 BK265 HB; have HO270 := n0_; have BK264 := n1_; have BK265 := n2_; have HB := n3_; have BK273 := n4_; have GW273 := n5_; have GE273 := n6_; have NB264_273 := n7_; have NB273_264 := n8_; have NB265_273 := n9_; have NB273_265 := n10_; clear n0_ n1_ n2_ n3_ n4_ n5_ n6_ n7_ n8_ n9_ n10_ hb hbox hg; obtain ⟨Ao26, co26, eo26⟩ := Kd.R_slice HO270.out; subst eo26; have hnb27 := NB273_264.out; have hnc27 := NB264_273.out; have hnb28 := NB273_265.out; have hnc28 := NB265_273.out; have hcz29_0 : w25.cell? ⟨gb273, 0, none⟩ = some (.slice none 0 0) := (blk_cell BK273.out 0).trans rfl; have hcz29_1 : w25.cell? ⟨gb273, 1, none⟩ = some (.int .i64 0) := (blk_cell BK273.out 1).trans rfl; have hfz29_0 := blk_frozen BK273.out 0; have hfz29_1 := blk_frozen BK273.out 1; have hcz30_0 : w25.cell? ⟨gb264, 0, none⟩ = some (.slice A0_0 l0_0.length c0_0) := (blk_cell BK264.out 0).trans rfl; have hcz30_1 : w25.cell? ⟨gb264, 1, none⟩ = some (.int .i64 a0_1) := (blk_cell BK264.out 1).trans rfl; have hfz30_0 := blk_frozen BK264.out 0; have hfz30_1 := blk_frozen BK264.out 1; have hcz31_0 : w25.cell? ⟨gb265, 0, none⟩ = some (.slice A1_0 l1_0.length c1_0) := (blk_cell BK265.out 0).trans rfl; have hcz31_1 : w25.cell? ⟨gb265, 1, none⟩ = some (.int .i64 a1_1) := (blk_cell BK265.out 1).trans rfl; have hfz31_0 := blk_frozen BK265.out 0; have hfz31_1 := blk_frozen BK265.out 1) | ((with_reducible refine gate_callee (f := 22) rfl ?_); refine goesL_ (some 29) rfl rfl Try.func22 (by kernel_rfl) rfl #[.agg #[.slice A0_0 l0_0.length c0_0, .int .i64 a0_1], .agg #[.slice A1_0 l1_0.length c1_0, .int .i64 a1_1]] rfl (by (try simp only [List.map_toArray, List.map_cons, List.map_nil]); first | done | rfl | (simp only [List.length_drop, List.length_take]; rfl)) ?_; (with_reducible refine (standbyref55_Convolve.calls kj2 _ _ l0_0 a0_1 _ _ l1_0 a1_1 t274 t277 t278 _ ?side1 ?side2 ?side3 ?side4 A16.out).mono ?_); (case side1 => exact Kd.C_below HR0_0.out (qW HB.out)); (case side2 => exact HC0_0.out); (case side3 => exact Kd.C_below HR1_0.out (qW HB.out)); (case side4 => exact HC1_0.out); rintro e w32 ⟨v275, rfl, ho0, hb⟩; refine ⟨_, rfl, ?_⟩; have n0_ := Aside0.mk (Kd.R_elder' (qR (Kd.R_mono (Kd.R_far (p := ⟨gb273, 1, none⟩) (Kd.R_far (p := ⟨gb273, 0, none⟩) (Kd.R_types HO270.out BK273.out (by decide)) (fun _ hk => hk.2) (.slice Ao26 t268.length co26)) (fun _ hk => hk.2) (.int .i64 t271)) (fun _ h_ => h_.1))) (Kd.R_base ho0) hb); have n1_ := Aside0.mk (Kd.R_lower (Kd.R_new' ho0 (Kd.R_lt (qR (Kd.R_mono (Kd.R_far (p := ⟨gb273, 1, none⟩) (Kd.R_far (p := ⟨gb273, 0, none⟩) (Kd.R_types HO270.out BK273.out (by decide)) (fun _ hk => hk.2) (.slice Ao26 t268.length co26)) (fun _ hk => hk.2) (.int .i64 t271)) (fun _ h_ => h_.1))))) (below_size (qW HB.out))); have n2_ := Aside0.mk (blk_below (g := gb264) (o := .cells #[.slice A0_0 l0_0.length c0_0, .int .i64 a0_1] 24 (0, 0)) (by (with_reducible repeat (first | refine blk_drewN ?_ _ | refine blk_drew ?_ | refine blk_alloc ?_ _)); refine blk_far ?_ NB264_273.out _; (with_reducible repeat (first | refine blk_drewN ?_ _ | refine blk_drew ?_ | refine blk_alloc ?_ _)); refine blk_far ?_ NB264_273.out _; exact qB BK264.out) hb); have n3_ := Aside0.mk (blk_below (g := gb265) (o := .cells #[.slice A1_0 l1_0.length c1_0, .int .i64 a1_1] 24 (0, 0)) (by (with_reducible repeat (first | refine blk_drewN ?_ _ | refine blk_drew ?_ | refine blk_alloc ?_ _)); refine blk_far ?_ NB265_273.out _; (with_reducible repeat (first | refine blk_drewN ?_ _ | refine blk_drew ?_ | refine blk_alloc ?_ _)); refine blk_far ?_ NB265_273.out _; exact qB BK265.out) hb); have n4_ := Aside0.mk (blk_below (g := gb273) (o := .cells #[.slice Ao26 t268.length co26, .int .i64 t271] 24 (0, 0)) (by (with_reducible repeat (first | refine blk_drewN ?_ _ | refine blk_drew ?_ | refine blk_alloc ?_ _)); refine blk_put (cs := #[.slice Ao26 t268.length co26, .int .i64 0]) ?_ 1 _ rfl; (with_reducible repeat (first | refine blk_drewN ?_ _ | refine blk_drew ?_ | refine blk_alloc ?_ _)); refine blk_put (cs := #[.slice none 0 0, .int .i64 0]) ?_ 0 _ rfl; exact qB BK273.out) hb); have n5_ := Aside0.mk (below_step (qW HB.out) hb); clear HO270 BK264 BK265 BK273 HB; have HO270 := n0_; have HO276 := n1_; have BK264 := n2_; have BK265 := n3_; have BK273 := n4_; have HB := n5_; clear n0_ n1_ n2_ n3_ n4_ n5_; (try clear hb); (try clear hb2); (try clear hk); (try clear hi); (try clear ho0)) | ((with_reducible refine gate_dst (N := 7) rfl ?_); (try (refine gate_guard (by rfl) ?_; dsimp only)); refine box_event ?hg (N := 7) ?hd (cs := #[.slice none 0 0, .int .i64 0]) (t := 24) ?hr ?_; (case hd => rfl); (case hg => rfl); (case hr => first | (go_simp; done) | (go_simp; rfl)); intro gb279 hg w33 hbox hb; have n0_ := Aside0.mk (Kd.R_below (qR HO270.out) hb); have n1_ := Aside0.mk (Kd.R_below (qR HO276.out) hb); have n2_ := Aside0.mk (blk_below (qB BK264.out) hb); have n3_ := Aside0.mk (blk_below (qB BK265.out) hb); have n4_ := Aside0.mk (blk_below (qB BK273.out) hb); have n5_ := Aside0.mk (below_step (qW HB.out) hb); have n6_ := Aside0.mk (hbox); have n7_ := Aside0.mk ((by rw [hg]; exact (below_size (qW HB.out)) : w.heap.size ≤ gb279)); have n8_ := Aside0.mk ((by rw [hg]; exact (below_size (qW HB.out)) : w.heap.size ≤ gb279)); have n9_ := Aside0.mk ((by rw [hg]; exact Nat.ne_of_lt (blk_lt (qB BK264.out)) : gb264 ≠ gb279)); have n10_ := Aside0.mk ((by rw [hg]; exact Nat.ne_of_gt (blk_lt (qB BK264.out)) : gb279 ≠ gb264)); have n11_ := Aside0.mk ((by rw [hg]; exact Nat.ne_of_lt (blk_lt (qB BK265.out)) : gb265 ≠ gb279)); have n12_ := Aside0.mk ((by rw [hg]; exact Nat.ne_of_gt (blk_lt (qB BK265.out)) : gb279 ≠ gb265)); have n13_ := Aside0.mk ((by rw [hg]; exact Nat.ne_of_lt (blk_lt (qB BK273.out)) : gb273 ≠ gb279)); have n14_ := Aside0.mk ((by rw [hg]; exact Nat.ne_of_gt (blk_lt (qB BK273.out)) : gb279 ≠ gb273)); clear HO270 HO276 BK264 BK265 BK273 HB; have HO270 := n0_; have HO276 := n1_; have BK264 := n2_; have BK265 := n3_; have BK273 := n4_; have HB := n5_; have BK279 := n6_; have GW279 := n7_; have GE279 := n8_; have NB264_279 := n9_; have NB279_264 := n10_; have NB265_279 := n11_; have NB279_265 := n12_; have NB273_279 := n13_; have NB279_273 := n14_; clear n0_ n1_ n2_ n3_ n4_ n5_ n6_ n7_ n8_ n9_ n10_ n11_ n12_ n13_ n14_ hb hbox hg; obtain ⟨Ao34, co34, eo34⟩ := Kd.R_slice HO276.out; subst eo34; have hnb35 := NB279_264.out; have hnc35 := NB264_279.out; have hnb36 := NB279_265.out; have hnc36 := NB265_279.out; have hnb37 := NB279_273.out; have hnc37 := NB273_279.out; have hcz38_0 : w33.cell? ⟨gb279, 0, none⟩ = some (.slice none 0 0) := (blk_cell BK279.out 0).trans rfl; have hcz38_1 : w33.cell? ⟨gb279, 1, none⟩ = some (.int .i64 0) := (blk_cell BK279.out 1).trans rfl; have hfz38_0 := blk_frozen BK279.out 0; have hfz38_1 := blk_frozen BK279.out 1; have hcz39_0 : w33.cell? ⟨gb273, 0, none⟩ = some (.slice Ao26 t268.length co26) := (blk_cell BK273.out 0).trans rfl; have hcz39_1 : w33.cell? ⟨gb273, 1, none⟩ = some (.int .i64 t271) := (blk_cell BK273.out 1).trans rfl; have hfz39_0 := blk_frozen BK273.out 0; have hfz39_1 := blk_frozen BK273.out 1) | ((with_reducible refine gate_callee (f := 20) rfl ?_); refine goesL_ (some 34) rfl rfl Try.func20 (by kernel_rfl) rfl #[.agg #[.slice Ao26 t268.length co26, .int .i64 t271], .agg #[.slice Ao34 t274.length co34, .int .i64 t277]] rfl (by (try simp only [List.map_toArray, List.map_cons, List.map_nil]); first | done | rfl | (simp only [List.length_drop, List.length_take]; rfl)) ?_; (with_reducible refine (standbyref55_Same.calls kj2 _ _ t268 t271 _ _ t274 t277 true _ ?side1 ?side2 ?side3 ?side4 A17.out).mono ?_); (case side1 => refine (Kd.R_reads' (e := 3) (base := w.heap.size) (ok := fun k_ => (True ∧ some k_ ≠ (.slice Ao34 t274.length co34 : Value).ownBlock)) (n := t268.length) (c := co26) ?_).2.2; exact (qR (Kd.R_mono (Kd.R_far (p := ⟨gb279, 1, none⟩) (Kd.R_far (p := ⟨gb279, 0, none⟩) (Kd.R_types HO270.out BK279.out (by decide)) (fun _ hk => hk.2) (.slice Ao34 t274.length co34)) (fun _ hk => hk.2) (.int .i64 t277)) (fun _ h_ => h_.1)))); (case side2 => exact (Kd.R_reads' HO270.out).2.1); (case side3 => refine (Kd.R_reads' (e := 3) (base := w.heap.size) (ok := fun k_ => (True ∧ some k_ ≠ (.slice Ao26 t268.length co26 : Value).ownBlock)) (n := t274.length) (c := co34) ?_).2.2; exact (qR (Kd.R_mono (Kd.R_far (p := ⟨gb279, 1, none⟩) (Kd.R_far (p := ⟨gb279, 0, none⟩) (Kd.R_types HO276.out BK279.out (by decide)) (fun _ hk => hk.2) (.slice Ao34 t274.length co34)) (fun _ hk => hk.2) (.int .i64 t277)) (fun _ h_ => h_.1)))); (case side4 => exact (Kd.R_reads' HO276.out).2.1); rintro e w40 ⟨rfl, hb⟩; refine ⟨_, rfl, ?_⟩; have n0_ := Aside0.mk (Kd.R_below (qR (Kd.R_mono (Kd.R_far (p := ⟨gb279, 1, none⟩) (Kd.R_far (p := ⟨gb279, 0, none⟩) (Kd.R_types HO270.out BK279.out (by decide)) (fun _ hk => hk.2) (.slice Ao34 t274.length co34)) (fun _ hk => hk.2) (.int .i64 t277)) (fun _ h_ => h_.1))) hb); have n1_ := Aside0.mk (Kd.R_below (qR (Kd.R_mono (Kd.R_far (p := ⟨gb279, 1, none⟩) (Kd.R_far (p := ⟨gb279, 0, none⟩) (Kd.R_types HO276.out BK279.out (by decide)) (fun _ hk => hk.2) (.slice Ao34 t274.length co34)) (fun _ hk => hk.2) (.int .i64 t277)) (fun _ h_ => h_.1))) hb); have n2_ := Aside0.mk (blk_below (g := gb264) (o := .cells #[.slice A0_0 l0_0.length c0_0, .int .i64 a0_1] 24 (0, 0)) (by (with_reducible repeat (first | refine blk_drewN ?_ _ | refine blk_drew ?_ | refine blk_alloc ?_ _)); refine blk_far ?_ NB264_279.out _; (with_reducible repeat (first | refine blk_drewN ?_ _ | refine blk_drew ?_ | refine blk_alloc ?_ _)); refine blk_far ?_ NB264_279.out _; exact qB BK264.out) hb); have n3_ := Aside0.mk (blk_below (g := gb265) (o := .cells #[.slice A1_0 l1_0.length c1_0, .int .i64 a1_1] 24 (0, 0)) (by (with_reducible repeat (first | refine blk_drewN ?_ _ | refine blk_drew ?_ | refine blk_alloc ?_ _)); refine blk_far ?_ NB265_279.out _; (with_reducible repeat (first | refine blk_drewN ?_ _ | refine blk_drew ?_ | refine blk_alloc ?_ _)); refine blk_far ?_ NB265_279.out _; exact qB BK265.out) hb); have n4_ := Aside0.mk (blk_below (g := gb273) (o := .cells #[.slice Ao26 t268.length co26, .int .i64 t271] 24 (0, 0)) (by (with_reducible repeat (first | refine blk_drewN ?_ _ | refine blk_drew ?_ | refine blk_alloc ?_ _)); refine blk_far ?_ NB273_279.out _; (with_reducible repeat (first | refine blk_drewN ?_ _ | refine blk_drew ?_ | refine blk_alloc ?_ _)); refine blk_far ?_ NB273_279.out _; exact qB BK273.out) hb); have n5_ := Aside0.mk (blk_below (g := gb279) (o := .cells #[.slice Ao34 t274.length co34, .int .i64 t277] 24 (0, 0)) (by (with_reducible repeat (first | refine blk_drewN ?_ _ | refine blk_drew ?_ | refine blk_alloc ?_ _)); refine blk_put (cs := #[.slice Ao34 t274.length co34, .int .i64 0]) ?_ 1 _ rfl; (with_reducible repeat (first | refine blk_drewN ?_ _ | refine blk_drew ?_ | refine blk_alloc ?_ _)); refine blk_put (cs := #[.slice none 0 0, .int .i64 0]) ?_ 0 _ rfl; exact qB BK279.out) hb); have n6_ := Aside0.mk (below_step (qW HB.out) hb); clear HO270 HO276 BK264 BK265 BK273 BK279 HB; have HO270 := n0_; have HO276 := n1_; have BK264 := n2_; have BK265 := n3_; have BK273 := n4_; have BK279 := n5_; have HB := n6_; clear n0_ n1_ n2_ n3_ n4_ n5_ n6_; (try clear hb); (try clear hb2); (try clear hk); (try clear hi)) | (go_at_call 11; (with_reducible refine (standbylaw55_awake.calls kj2  t281 _ A20.out).mono ?_); rintro e w41 ⟨rfl, hb⟩; have n0_ := Aside0.mk (Kd.R_below (qR HO270.out) hb); have n1_ := Aside0.mk (Kd.R_below (qR HO276.out) hb); have n2_ := Aside0.mk (blk_below (qB BK264.out) hb); have n3_ := Aside0.mk (blk_below (qB BK265.out) hb); have n4_ := Aside0.mk (blk_below (qB BK273.out) hb); have n5_ := Aside0.mk (blk_below (qB BK279.out) hb); have n6_ := Aside0.mk (below_step (qW HB.out) hb); clear HO270 HO276 BK264 BK265 BK273 BK279 HB; have HO270 := n0_; have HO276 := n1_; have BK264 := n2_; have BK265 := n3_; have BK273 := n4_; have BK279 := n5_; have HB := n6_; clear n0_ n1_ n2_ n3_ n4_ n5_ n6_; (try clear hb); (try clear hb2); (try clear hk); (try clear hi)))
    go_ret
    exact ⟨by first | rfl | (simp [errW_none, errW_some] <;> rfl) | (simp [*, errW_none, errW_some] <;> rfl), by repeat (first | (with_reducible first | exact HB.out | apply below_alloc | apply pw_below_drewN | apply below_drew1 | refine below_set ?_ GE264.out | refine below_set ?_ GE265.out | refine below_set ?_ GE273.out | refine below_set ?_ GE279.out) | exact HB.out)⟩
end Go.Proofs.Ytanlonngekgibaa.Pr

-- Written by pp.py, a program of this session, over the translation of the given program; a machine's text: Lean checks it.
import Derived.Test.YtanlonngekgibaaGShort
import Derived.Test.YtanlonngekgibaaF11
import Derived.Test.YtanlonngekgibaaF16
import Derived.Test.YtanlonngekgibaaF18
import Derived.Test.YtanlonngekgibaaF28
import Derived.Test.YtanlonngekgibaaF29
import Derived.Test.YtanlonngekgibaaGWin
namespace Go.Proofs.Ytanlonngekgibaa.Pr
open Go.RowKit Go.Proofs.YtanlonngekgibaaW.PrintWords Go.Proofs.YtanlonngekgibaaW.PrintLast Go.Proofs.YtanlonngekgibaaW.PrintMore
attribute [local go_sem] max2_int min2_int max_two min_two max_three min_three max_four min_four   -- for this text's walks alone
set_option linter.unusedVariables false
set_option linter.unusedSimpArgs false

/-! ### standbylaw55_CurveWindows: function 6 -/
def standbylaw55_CurveWindows.l0 : Nat → List Int → Int → Int → Int → Int → Int → Int → List Int → Int → List Int → Int → Option (Bool)
 | 0, _, _, _, _, _, _, _, _, _, _, _ => none
 | k + 1, x0, x1, x7, x12, x13, x62, x63, x322000, x322001, x328000, x328001 => if x63 < x62 then ((standbyref55_Window.f k x0 x1 x63 x7).bind fun t332 => (standbylaw55_CurveWindows.l0 k x0 x1 x7 (mx x12 t332) (mn x13 t332) x62 (wrap64 (x63 + 1)) x322000 x322001 x328000 x328001)) else ((curve_At.f k x322000 x322001 x7).bind fun t333 => (if t333 = x12 then ((curve_At.f k x328000 x328001 x7).bind fun t334 => (if t334 = x13 then ((standbylaw55_awake.f k).bind fun t335 => (some t335)) else (none))) else (none)))
def standbylaw55_CurveWindows.f (k : Nat) (l0 : List Int) (a1 : Int) (a2 : Int) : Option (Bool) := (standbylaw55_small.f l0 a1).bind fun t314 => (if t314 = true then ((curve_Arrival.f l0 a1).bind fun bt316 => ((curve_Service.f l0 a1).bind fun bt322 => (if bt316.2.2 = 0 then (if bt322.2.2 = 0 then ((curve_Check.f k bt316.1 bt316.2.1).bind fun t328 => (if t328 = 0 then ((curve_Check.f k bt322.1 bt322.2.1).bind fun t329 => (if t329 = 0 then ((standbyref55_Window.f k l0 a1 0 (Int.tmod (wrap64 (a2)) 70)).bind fun t330 => ((standbyref55_Window.f k l0 a1 0 (Int.tmod (wrap64 (a2)) 70)).bind fun t331 => (standbylaw55_CurveWindows.l0 k l0 a1 (Int.tmod (wrap64 (a2)) 70) t330 t331 (wrap64 ((l0.length : Int) + 3)) 0 bt316.1 bt316.2.1 bt322.1 bt322.2.1))) else (none))) else (none))) else (none)) else (none)))) else ((standbylaw55_awake.f k).bind fun t315 => (some t315)))
set_option maxHeartbeats 8000000 in
set_option maxRecDepth 100000 in
theorem standbylaw55_CurveWindows.calls (k : Nat) (A0 : Option Addr) (c0 : Nat) (l0 : List Int) (a1 : Int) (a2 : Int) (r : Bool) (w : World) (hr0 : Kd.C (Kd.int .i64) w A0 l0.length l0) (hc0 : l0.length ≤ c0) (h : standbylaw55_CurveWindows.f k l0 a1 a2 = some r) :
  Calls Try.prog 6 #[.slice A0 l0.length c0, .int .i64 a1, .int .u8 a2] w fun e w' => e = .returned (.bool r) ∧ Below w.heap.size w w' := by
 have hu24 := Try.underlying24
 have HR0 := Aside0.mk hr0
 have HC0 := Aside0.mk hc0
 clear hr0 hc0
 have HB := Aside0.mk (Below.refl w.heap.size w)
 have H : ((standbylaw55_small.f l0 a1).bind fun t314 => (if t314 = true then ((curve_Arrival.f l0 a1).bind fun bt316 => ((curve_Service.f l0 a1).bind fun bt322 => (if bt316.2.2 = 0 then (if bt322.2.2 = 0 then ((curve_Check.f k bt316.1 bt316.2.1).bind fun t328 => (if t328 = 0 then ((curve_Check.f k bt322.1 bt322.2.1).bind fun t329 => (if t329 = 0 then ((standbyref55_Window.f k l0 a1 0 (Int.tmod (wrap64 (a2)) 70)).bind fun t330 => ((standbyref55_Window.f k l0 a1 0 (Int.tmod (wrap64 (a2)) 70)).bind fun t331 => (standbylaw55_CurveWindows.l0 k l0 a1 (Int.tmod (wrap64 (a2)) 70) t330 t331 (wrap64 ((l0.length : Int) + 3)) 0 bt316.1 bt316.2.1 bt322.1 bt322.2.1))) else (none))) else (none))) else (none)) else (none)))) else ((standbylaw55_awake.f k).bind fun t315 => (some t315)))) = some r := h
 clear h
 replace H := Option.bind_eq_some_iff.mp H
 obtain ⟨t314, A40, H⟩ := H
 replace H : (if t314 = true then ((curve_Arrival.f l0 a1).bind fun bt316 => ((curve_Service.f l0 a1).bind fun bt322 => (if bt316.2.2 = 0 then (if bt322.2.2 = 0 then ((curve_Check.f k bt316.1 bt316.2.1).bind fun t328 => (if t328 = 0 then ((curve_Check.f k bt322.1 bt322.2.1).bind fun t329 => (if t329 = 0 then ((standbyref55_Window.f k l0 a1 0 (Int.tmod (wrap64 (a2)) 70)).bind fun t330 => ((standbyref55_Window.f k l0 a1 0 (Int.tmod (wrap64 (a2)) 70)).bind fun t331 => (standbylaw55_CurveWindows.l0 k l0 a1 (Int.tmod (wrap64 (a2)) 70) t330 t331 (wrap64 ((l0.length : Int) + 3)) 0 bt316.1 bt316.2.1 bt322.1 bt322.2.1))) else (none))) else (none))) else (none)) else (none)))) else ((standbylaw55_awake.f k).bind fun t315 => (some t315))) = some r := H
 have A4 := Aside0.mk A40
 clear A40
 by_cases c5 : t314 = true
 case neg =>
  replace c5 := Bool.eq_false_iff.mpr c5
  subst c5
  have H1 : ((standbylaw55_awake.f k).bind fun t315 => (some t315)) = some r := by rw [if_neg (show ¬ (false = true) by decide)] at H; exact H
  clear H
  have H := H1
  clear H1
  replace H := Option.bind_eq_some_iff.mp H
  obtain ⟨t315, A440, H⟩ := H
  replace H : (some t315) = some r := H
  have A44 := Aside0.mk A440
  clear A440
  obtain rfl := Option.some.inj H
  go_enter Try.func6, Try.ntmps6
  go_wp2_with (first | ((with_reducible refine gate_callee (f := 28) rfl ?_); refine goesL_ (some 18) rfl rfl Try.func28 (by kernel_rfl) rfl #[.slice A0 l0.length c0, .int .i64 a1] rfl (by (try simp only [List.map_toArray, List.map_cons, List.map_nil]); first | done | rfl | (simp only [List.length_drop, List.length_take]; rfl)) ?_; (with_reducible refine (standbylaw55_small.calls _ _ l0 a1 false _ ?side1 ?side2 A4.out).mono ?_); (case side1 => repeat (first | exact HR0.out | (with_reducible refine Kd.C_alloc ?_ _) | (with_reducible refine Kd.C_drewN ?_ _) | (with_reducible refine Kd.C_drew ?_))); (case side2 => exact HC0.out); rintro e w' ⟨rfl, ⟨nd, rfl⟩⟩; refine ⟨_, rfl, ?_⟩) | ((with_reducible refine gate_callee (f := 11) rfl ?_); refine goesL_ (some 20) rfl rfl Try.func11 (by kernel_rfl) rfl #[] rfl (by (try simp only [List.map_toArray, List.map_cons, List.map_nil]); first | done | rfl | (simp only [List.length_drop, List.length_take]; rfl)) ?_; (with_reducible refine (standbylaw55_awake.calls k  t315 _ A44.out).mono ?_); rintro e w45 ⟨rfl, hb⟩; refine ⟨_, rfl, ?_⟩; have n0_ := Aside0.mk (below_step (qW HB.out) hb); clear HB; have HB := n0_; clear n0_; (try clear hb); (try clear hb2); (try clear hk); (try clear hi)))
  go_ret
  exact ⟨by first | rfl | (simp [errW_none, errW_some] <;> rfl) | (simp [*, errW_none, errW_some] <;> rfl), by repeat (first | (with_reducible first | exact HB.out | apply below_alloc | apply pw_below_drewN | apply below_drew1) | exact HB.out)⟩

 subst c5
 have H1 : ((curve_Arrival.f l0 a1).bind fun bt316 => ((curve_Service.f l0 a1).bind fun bt322 => (if bt316.2.2 = 0 then (if bt322.2.2 = 0 then ((curve_Check.f k bt316.1 bt316.2.1).bind fun t328 => (if t328 = 0 then ((curve_Check.f k bt322.1 bt322.2.1).bind fun t329 => (if t329 = 0 then ((standbyref55_Window.f k l0 a1 0 (Int.tmod (wrap64 (a2)) 70)).bind fun t330 => ((standbyref55_Window.f k l0 a1 0 (Int.tmod (wrap64 (a2)) 70)).bind fun t331 => (standbylaw55_CurveWindows.l0 k l0 a1 (Int.tmod (wrap64 (a2)) 70) t330 t331 (wrap64 ((l0.length : Int) + 3)) 0 bt316.1 bt316.2.1 bt322.1 bt322.2.1))) else (none))) else (none))) else (none)) else (none)))) = some r := by rw [if_pos rfl] at H; exact H
 clear H
 have H := H1
 clear H1
 replace H := Option.bind_eq_some_iff.mp H
 obtain ⟨⟨t316, t319, t320⟩, A60, H⟩ := H
 replace H : ((curve_Service.f l0 a1).bind fun bt322 => (if t320 = 0 then (if bt322.2.2 = 0 then ((curve_Check.f k t316 t319).bind fun t328 => (if t328 = 0 then ((curve_Check.f k bt322.1 bt322.2.1).bind fun t329 => (if t329 = 0 then ((standbyref55_Window.f k l0 a1 0 (Int.tmod (wrap64 (a2)) 70)).bind fun t330 => ((standbyref55_Window.f k l0 a1 0 (Int.tmod (wrap64 (a2)) 70)).bind fun t331 => (standbylaw55_CurveWindows.l0 k l0 a1 (Int.tmod (wrap64 (a2)) 70) t330 t331 (wrap64 ((l0.length : Int) + 3)) 0 t316 t319 bt322.1 bt322.2.1))) else (none))) else (none))) else (none)) else (none))) = some r := H
 have A6 := Aside0.mk A60
 clear A60
 replace H := Option.bind_eq_some_iff.mp H
 obtain ⟨⟨t322, t325, t326⟩, A70, H⟩ := H
 replace H : (if t320 = 0 then (if t326 = 0 then ((curve_Check.f k t316 t319).bind fun t328 => (if t328 = 0 then ((curve_Check.f k t322 t325).bind fun t329 => (if t329 = 0 then ((standbyref55_Window.f k l0 a1 0 (Int.tmod (wrap64 (a2)) 70)).bind fun t330 => ((standbyref55_Window.f k l0 a1 0 (Int.tmod (wrap64 (a2)) 70)).bind fun t331 => (standbylaw55_CurveWindows.l0 k l0 a1 (Int.tmod (wrap64 (a2)) 70) t330 t331 (wrap64 ((l0.length : Int) + 3)) 0 t316 t319 t322 t325))) else (none))) else (none))) else (none)) else (none)) = some r := H
 have A7 := Aside0.mk A70
 clear A70
 by_cases c8 : t320 = 0
 case neg =>
  rw [if_neg c8] at H
  exact absurd H (by simp)
 rw [if_pos c8] at H
 have c8b0 : (t320 == 0) = true := beq_iff_eq.mpr c8
 have c8b1 : (t320 != 0) = false := bne_eq_false_iff_eq.mpr c8
 clear c8
 by_cases c9 : t326 = 0
 case neg =>
  rw [if_neg c9] at H
  exact absurd H (by simp)
 rw [if_pos c9] at H
 have c9b0 : (t326 == 0) = true := beq_iff_eq.mpr c9
 have c9b1 : (t326 != 0) = false := bne_eq_false_iff_eq.mpr c9
 clear c9
 replace H := Option.bind_eq_some_iff.mp H
 obtain ⟨t328, A100, H⟩ := H
 replace H : (if t328 = 0 then ((curve_Check.f k t322 t325).bind fun t329 => (if t329 = 0 then ((standbyref55_Window.f k l0 a1 0 (Int.tmod (wrap64 (a2)) 70)).bind fun t330 => ((standbyref55_Window.f k l0 a1 0 (Int.tmod (wrap64 (a2)) 70)).bind fun t331 => (standbylaw55_CurveWindows.l0 k l0 a1 (Int.tmod (wrap64 (a2)) 70) t330 t331 (wrap64 ((l0.length : Int) + 3)) 0 t316 t319 t322 t325))) else (none))) else (none)) = some r := H
 have A10 := Aside0.mk A100
 clear A100
 by_cases c11 : t328 = 0
 case neg =>
  rw [if_neg c11] at H
  exact absurd H (by simp)
 rw [if_pos c11] at H
 have c11b0 : (t328 == 0) = true := beq_iff_eq.mpr c11
 have c11b1 : (t328 != 0) = false := bne_eq_false_iff_eq.mpr c11
 clear c11
 replace H := Option.bind_eq_some_iff.mp H
 obtain ⟨t329, A120, H⟩ := H
 replace H : (if t329 = 0 then ((standbyref55_Window.f k l0 a1 0 (Int.tmod (wrap64 (a2)) 70)).bind fun t330 => ((standbyref55_Window.f k l0 a1 0 (Int.tmod (wrap64 (a2)) 70)).bind fun t331 => (standbylaw55_CurveWindows.l0 k l0 a1 (Int.tmod (wrap64 (a2)) 70) t330 t331 (wrap64 ((l0.length : Int) + 3)) 0 t316 t319 t322 t325))) else (none)) = some r := H
 have A12 := Aside0.mk A120
 clear A120
 by_cases c13 : t329 = 0
 case neg =>
  rw [if_neg c13] at H
  exact absurd H (by simp)
 rw [if_pos c13] at H
 have c13b0 : (t329 == 0) = true := beq_iff_eq.mpr c13
 have c13b1 : (t329 != 0) = false := bne_eq_false_iff_eq.mpr c13
 clear c13
 replace H := Option.bind_eq_some_iff.mp H
 obtain ⟨t330, A140, H⟩ := H
 replace H : ((standbyref55_Window.f k l0 a1 0 (Int.tmod (wrap64 (a2)) 70)).bind fun t331 => (standbylaw55_CurveWindows.l0 k l0 a1 (Int.tmod (wrap64 (a2)) 70) t330 t331 (wrap64 ((l0.length : Int) + 3)) 0 t316 t319 t322 t325)) = some r := H
 have A14 := Aside0.mk A140
 clear A140
 replace H := Option.bind_eq_some_iff.mp H
 obtain ⟨t331, A150, H⟩ := H
 replace H : (standbylaw55_CurveWindows.l0 k l0 a1 (Int.tmod (wrap64 (a2)) 70) t330 t331 (wrap64 ((l0.length : Int) + 3)) 0 t316 t319 t322 t325) = some r := H
 have A15 := Aside0.mk A150
 clear A150
 have H' := Aside0.mk H
 clear H
 go_enter Try.func6, Try.ntmps6
 go_wp2_with (first | ((with_reducible refine gate_callee (f := 28) rfl ?_); refine goesL_ (some 18) rfl rfl Try.func28 (by kernel_rfl) rfl #[.slice A0 l0.length c0, .int .i64 a1] rfl (by (try simp only [List.map_toArray, List.map_cons, List.map_nil]); first | done | rfl | (simp only [List.length_drop, List.length_take]; rfl)) ?_; (with_reducible refine (standbylaw55_small.calls _ _ l0 a1 true _ ?side1 ?side2 A4.out).mono ?_); (case side1 => repeat (first | exact HR0.out | (with_reducible refine Kd.C_alloc ?_ _) | (with_reducible refine Kd.C_drewN ?_ _) | (with_reducible refine Kd.C_drew ?_))); (case side2 => exact HC0.out); rintro e w' ⟨rfl, ⟨nd, rfl⟩⟩; refine ⟨_, rfl, ?_⟩) | ((with_reducible refine gate_callee (f := 12) rfl ?_); refine goesL_ (some 27) rfl rfl Try.func12 (by kernel_rfl) rfl #[.slice A0 l0.length c0, .int .i64 a1] rfl (by (try simp only [List.map_toArray, List.map_cons, List.map_nil]); first | done | rfl | (simp only [List.length_drop, List.length_take]; rfl)) ?_; (with_reducible refine (curve_Arrival.calls _ _ l0 a1 t316 t319 t320 _ ?side1 ?side2 A6.out).mono ?_); (case side1 => repeat (first | exact HR0.out | (with_reducible refine Kd.C_alloc ?_ _) | (with_reducible refine Kd.C_drewN ?_ _) | (with_reducible refine Kd.C_drew ?_))); (case side2 => exact HC0.out); rintro e w16 ⟨v317, rfl, ho0, hb⟩; refine ⟨_, rfl, ?_⟩; have n0_ := Aside0.mk (Kd.R_lower ho0 (below_size (qW HB.out))); have n1_ := Aside0.mk (below_step (qW HB.out) hb); clear HB; have HO318 := n0_; have HB := n1_; clear n0_ n1_; (try clear hb); (try clear hb2); (try clear hk); (try clear hi); (try clear ho0)) | ((with_reducible refine gate_dst (N := 8) rfl ?_); refine box_event ?hg (N := 8) ?hd (cs := #[.slice none 0 0, .int .i64 0]) (t := 24) ?hr ?_; (case hd => rfl); (case hg => rfl); (case hr => first | (go_simp; done) | (go_simp; rfl)); intro gb321 hg w17 hbox hb; have n0_ := Aside0.mk (Kd.R_below (qR HO318.out) hb); have n1_ := Aside0.mk (below_step (qW HB.out) hb); have n2_ := Aside0.mk (hbox); have n3_ := Aside0.mk ((by rw [hg]; exact (below_size (qW HB.out)) : w.heap.size ≤ gb321)); have n4_ := Aside0.mk ((by rw [hg]; exact (below_size (qW HB.out)) : w.heap.size ≤ gb321)); clear HO318 HB; have HO318 := n0_; have HB := n1_; have BK321 := n2_; have GW321 := n3_; have GE321 := n4_; clear n0_ n1_ n2_ n3_ n4_ hb hbox hg; obtain ⟨Ao18, co18, eo18⟩ := Kd.R_slice HO318.out; subst eo18; have hcz19_0 : w17.cell? ⟨gb321, 0, none⟩ = some (.slice none 0 0) := (blk_cell BK321.out 0).trans rfl; have hcz19_1 : w17.cell? ⟨gb321, 1, none⟩ = some (.int .i64 0) := (blk_cell BK321.out 1).trans rfl; have hfz19_0 := blk_frozen BK321.out 0; have hfz19_1 := blk_frozen BK321.out 1) | ((with_reducible refine gate_callee (f := 14) rfl ?_); refine goesL_ (some 33) rfl rfl Try.func14 (by kernel_rfl) rfl #[.slice A0 l0.length c0, .int .i64 a1] rfl (by (try simp only [List.map_toArray, List.map_cons, List.map_nil]); first | done | rfl | (simp only [List.length_drop, List.length_take]; rfl)) ?_; (with_reducible refine (curve_Service.calls _ _ l0 a1 t322 t325 t326 _ ?side1 ?side2 A7.out).mono ?_); (case side1 => exact Kd.C_below HR0.out (qW HB.out)); (case side2 => exact HC0.out); rintro e w20 ⟨v323, rfl, ho0, hb⟩; refine ⟨_, rfl, ?_⟩; have n0_ := Aside0.mk (Kd.R_elder' (qR (Kd.R_mono (Kd.R_far (p := ⟨gb321, 1, none⟩) (Kd.R_far (p := ⟨gb321, 0, none⟩) (Kd.R_types HO318.out BK321.out (by decide)) (fun _ hk => hk.2) (.slice Ao18 t316.length co18)) (fun _ hk => hk.2) (.int .i64 t319)) (fun _ h_ => h_.1))) (Kd.R_base ho0) hb); have n1_ := Aside0.mk (Kd.R_lower (Kd.R_new' ho0 (Kd.R_lt (qR (Kd.R_mono (Kd.R_far (p := ⟨gb321, 1, none⟩) (Kd.R_far (p := ⟨gb321, 0, none⟩) (Kd.R_types HO318.out BK321.out (by decide)) (fun _ hk => hk.2) (.slice Ao18 t316.length co18)) (fun _ hk => hk.2) (.int .i64 t319)) (fun _ h_ => h_.1))))) (below_size (qW HB.out))); have n2_ := Aside0.mk (blk_below (g := gb321) (o := .cells #[.slice Ao18 t316.length co18, .int .i64 t319] 24 (0, 0)) (by (with_reducible repeat (first | refine blk_drewN ?_ _ | refine blk_drew ?_ | refine blk_alloc ?_ _)); refine blk_put (cs := #[.slice Ao18 t316.length co18, .int .i64 0]) ?_ 1 _ rfl; (with_reducible repeat (first | refine blk_drewN ?_ _ | refine blk_drew ?_ | refine blk_alloc ?_ _)); refine blk_put (cs := #[.slice none 0 0, .int .i64 0]) ?_ 0 _ rfl; exact qB BK321.out) hb); have n3_ := Aside0.mk (below_step (qW HB.out) hb); clear HO318 BK321 HB; have HO318 := n0_; have HO324 := n1_; have BK321 := n2_; have HB := n3_; clear n0_ n1_ n2_ n3_; (try clear hb); (try clear hb2); (try clear hk); (try clear hi); (try clear ho0)) | ((with_reducible refine gate_dst (N := 10) rfl ?_); refine box_event ?hg (N := 10) ?hd (cs := #[.slice none 0 0, .int .i64 0]) (t := 24) ?hr ?_; (case hd => rfl); (case hg => rfl); (case hr => first | (go_simp; done) | (go_simp; rfl)); intro gb327 hg w21 hbox hb; have n0_ := Aside0.mk (Kd.R_below (qR HO318.out) hb); have n1_ := Aside0.mk (Kd.R_below (qR HO324.out) hb); have n2_ := Aside0.mk (blk_below (qB BK321.out) hb); have n3_ := Aside0.mk (below_step (qW HB.out) hb); have n4_ := Aside0.mk (hbox); have n5_ := Aside0.mk ((by rw [hg]; exact (below_size (qW HB.out)) : w.heap.size ≤ gb327)); have n6_ := Aside0.mk ((by rw [hg]; exact (below_size (qW HB.out)) : w.heap.size ≤ gb327)); have n7_ := Aside0.mk ((by rw [hg]; exact Nat.ne_of_lt (blk_lt (qB BK321.out)) : gb321 ≠ gb327)); have n8_ := Aside0.mk ((by rw [hg]; exact Nat.ne_of_gt (blk_lt (qB BK321.out)) : gb327 ≠ gb321)); clear HO318 HO324 BK321 HB; have HO318 := n0_; have HO324 := n1_; have BK321 := n2_; have HB := n3_; have BK327 := n4_; have GW327 := n5_; have GE327 := n6_; have NB321_327 := n7_; have NB327_321 := n8_; clear n0_ n1_ n2_ n3_ n4_ n5_ n6_ n7_ n8_ hb hbox hg; obtain ⟨Ao22, co22, eo22⟩ := Kd.R_slice HO324.out; subst eo22; have hnb23 := NB327_321.out; have hnc23 := NB321_327.out; have hcz24_0 : w21.cell? ⟨gb327, 0, none⟩ = some (.slice none 0 0) := (blk_cell BK327.out 0).trans rfl; have hcz24_1 : w21.cell? ⟨gb327, 1, none⟩ = some (.int .i64 0) := (blk_cell BK327.out 1).trans rfl; have hfz24_0 := blk_frozen BK327.out 0; have hfz24_1 := blk_frozen BK327.out 1; have hcz25_0 : w21.cell? ⟨gb321, 0, none⟩ = some (.slice Ao18 t316.length co18) := (blk_cell BK321.out 0).trans rfl; have hcz25_1 : w21.cell? ⟨gb321, 1, none⟩ = some (.int .i64 t319) := (blk_cell BK321.out 1).trans rfl; have hfz25_0 := blk_frozen BK321.out 0; have hfz25_1 := blk_frozen BK321.out 1) | (go_at_call 16; (with_reducible refine (curve_Check.calls k _ _ t316 t319 t328 _ ?side1 ?side2 A10.out).mono ?_); (case side1 => refine (Kd.R_reads' (e := 3) (base := w.heap.size) (ok := fun k_ => (True ∧ some k_ ≠ (.slice Ao22 t322.length co22 : Value).ownBlock)) (n := t316.length) (c := co18) ?_).2.2; exact (qR (Kd.R_mono (Kd.R_far (p := ⟨gb327, 1, none⟩) (Kd.R_far (p := ⟨gb327, 0, none⟩) (Kd.R_types HO318.out BK327.out (by decide)) (fun _ hk => hk.2) (.slice Ao22 t322.length co22)) (fun _ hk => hk.2) (.int .i64 t325)) (fun _ h_ => h_.1)))); (case side2 => exact (Kd.R_reads' HO318.out).2.1); rintro e w26 ⟨rfl, hb⟩; have n0_ := Aside0.mk (Kd.R_below (qR (Kd.R_mono (Kd.R_far (p := ⟨gb327, 1, none⟩) (Kd.R_far (p := ⟨gb327, 0, none⟩) (Kd.R_types HO318.out BK327.out (by decide)) (fun _ hk => hk.2) (.slice Ao22 t322.length co22)) (fun _ hk => hk.2) (.int .i64 t325)) (fun _ h_ => h_.1))) hb); have n1_ := Aside0.mk (Kd.R_below (qR (Kd.R_mono (Kd.R_far (p := ⟨gb327, 1, none⟩) (Kd.R_far (p := ⟨gb327, 0, none⟩) (Kd.R_types HO324.out BK327.out (by decide)) (fun _ hk => hk.2) (.slice Ao22 t322.length co22)) (fun _ hk => hk.2) (.int .i64 t325)) (fun _ h_ => h_.1))) hb); have n2_ := Aside0.mk (blk_below (g := gb321) (o := .cells #[.slice Ao18 t316.length co18, .int .i64 t319] 24 (0, 0)) (by (with_reducible repeat (first | refine blk_drewN ?_ _ | refine blk_drew ?_ | refine blk_alloc ?_ _)); refine blk_far ?_ NB321_327.out _; (with_reducible repeat (first | refine blk_drewN ?_ _ | refine blk_drew ?_ | refine blk_alloc ?_ _)); refine blk_far ?_ NB321_327.out _; exact qB BK321.out) hb); have n3_ := Aside0.mk (blk_below (g := gb327) (o := .cells #[.slice Ao22 t322.length co22, .int .i64 t325] 24 (0, 0)) (by (with_reducible repeat (first | refine blk_drewN ?_ _ | refine blk_drew ?_ | refine blk_alloc ?_ _)); refine blk_put (cs := #[.slice Ao22 t322.length co22, .int .i64 0]) ?_ 1 _ rfl; (with_reducible repeat (first | refine blk_drewN ?_ _ | refine blk_drew ?_ | refine blk_alloc ?_ _)); refine blk_put (cs := #[.slice none 0 0, .int .i64 0]) ?_ 0 _ rfl; exact qB BK327.out) hb); have n4_ := Aside0.mk (below_step (qW HB.out) hb); clear HO318 HO324 BK321 BK327 HB; have HO318 := n0_; have HO324 := n1_; have BK321 := n2_; have BK327 := n3_; have HB := n4_; clear n0_ n1_ n2_ n3_ n4_; (try clear hb); (try clear hb2); (try clear hk); (try clear hi); have hcz27_0 : w26.cell? ⟨gb327, 0, none⟩ = some (.slice Ao22 t322.length co22) := (blk_cell BK327.out 0).trans rfl; have hcz27_1 : w26.cell? ⟨gb327, 1, none⟩ = some (.int .i64 t325) := (blk_cell BK327.out 1).trans rfl; have hfz27_0 := blk_frozen BK327.out 0; have hfz27_1 := blk_frozen BK327.out 1) | (go_at_call 16; (with_reducible refine (curve_Check.calls k _ _ t322 t325 t329 _ ?side1 ?side2 A12.out).mono ?_); (case side1 => repeat (first | exact (Kd.R_reads' HO324.out).2.2 | (with_reducible refine Kd.C_alloc ?_ _) | (with_reducible refine Kd.C_drewN ?_ _) | (with_reducible refine Kd.C_drew ?_))); (case side2 => exact (Kd.R_reads' HO324.out).2.1); rintro e w28 ⟨rfl, hb⟩; have n0_ := Aside0.mk (Kd.R_below (qR HO318.out) hb); have n1_ := Aside0.mk (Kd.R_below (qR HO324.out) hb); have n2_ := Aside0.mk (blk_below (qB BK321.out) hb); have n3_ := Aside0.mk (blk_below (qB BK327.out) hb); have n4_ := Aside0.mk (below_step (qW HB.out) hb); clear HO318 HO324 BK321 BK327 HB; have HO318 := n0_; have HO324 := n1_; have BK321 := n2_; have BK327 := n3_; have HB := n4_; clear n0_ n1_ n2_ n3_ n4_; (try clear hb); (try clear hb2); (try clear hk); (try clear hi)) | ((with_reducible refine gate_callee (f := 29) rfl ?_); refine goesL_ (some 55) rfl rfl Try.func29 (by kernel_rfl) rfl #[.slice A0 l0.length c0, .int .i64 a1, .int .i64 0, .int .i64 (Int.tmod (wrap64 (a2)) 70)] rfl (by (try simp only [List.map_toArray, List.map_cons, List.map_nil]); first | done | rfl | (simp only [List.length_drop, List.length_take]; rfl)) ?_; (with_reducible refine (standbyref55_Window.calls k _ _ l0 a1 0 (Int.tmod (wrap64 (a2)) 70) t330 _ ?side1 ?side2 A14.out).mono ?_); (case side1 => exact qC HR0.out HB.out); (case side2 => exact HC0.out); rintro e w' ⟨rfl, ⟨nd, rfl⟩⟩; refine ⟨_, rfl, ?_⟩) | ((with_reducible refine gate_callee (f := 29) rfl ?_); refine goesL_ (some 59) rfl rfl Try.func29 (by kernel_rfl) rfl #[.slice A0 l0.length c0, .int .i64 a1, .int .i64 0, .int .i64 (Int.tmod (wrap64 (a2)) 70)] rfl (by (try simp only [List.map_toArray, List.map_cons, List.map_nil]); first | done | rfl | (simp only [List.length_drop, List.length_take]; rfl)) ?_; (with_reducible refine (standbyref55_Window.calls k _ _ l0 a1 0 (Int.tmod (wrap64 (a2)) 70) t331 _ ?side1 ?side2 A15.out).mono ?_); (case side1 => repeat (first | exact (Kd.C_below HR0.out (qW HB.out)) | (with_reducible refine Kd.C_alloc ?_ _) | (with_reducible refine Kd.C_drewN ?_ _) | (with_reducible refine Kd.C_drew ?_))); (case side2 => exact HC0.out); rintro e w' ⟨rfl, ⟨nd, rfl⟩⟩; refine ⟨_, rfl, ?_⟩))
 go_loopg [12, 13, 63] k (fun kq v12 v13 v63 w' => ∃ (x12_1 : Int) (x13_1 : Int) (x63_1 : Int), v12 = .int .i64 x12_1 ∧ v13 = .int .i64 x13_1 ∧ v63 = .int .i64 x63_1 ∧ Aside0 (standbylaw55_CurveWindows.l0 kq l0 a1 (Int.tmod (wrap64 (a2)) 70) x12_1 x13_1 (wrap64 ((l0.length : Int) + 3)) x63_1 t316 t319 t322 t325 = some r) ∧ Aside0 (kq ≤ k) ∧ Aside0 (Kd.R (Kd.int .i64) 3 w' w.heap.size (fun k_ => some k_ ≠ ((.slice Ao22 t322.length co22) : Value).ownBlock) (.slice Ao18 t316.length co18) t316) ∧ Aside0 (Kd.R (Kd.int .i64) 3 w' w.heap.size (fun k_ => some k_ ≠ ((.slice Ao18 t316.length co18) : Value).ownBlock) (.slice Ao22 t322.length co22) t322) ∧ Aside0 (w'.heap[gb321]? = some (.cells #[(.slice Ao18 t316.length co18), .int .i64 t319] 24 (0, 0))) ∧ Aside0 (w'.heap[gb327]? = some (.cells #[(.slice Ao22 t322.length co22), .int .i64 t325] 24 (0, 0))) ∧ Aside0 (Below w.heap.size w w'))
 case atStart => exact ⟨(t330), (t331), (0), (by first | rfl | (simp; done) | (simp [*]; done)), (by first | rfl | (simp; done) | (simp [*]; done)), (by first | rfl | (simp; done) | (simp [*]; done)), H', ⟨Nat.le_refl _⟩, ⟨by exact qR (Kd.R_mono HO318.out (fun _ hk => hk.2))⟩, ⟨by exact qR (Kd.R_mono HO324.out (fun _ hk => hk.2))⟩, ⟨by exact qB BK321.out⟩, ⟨by exact qB BK327.out⟩, ⟨by repeat (first | (with_reducible first | exact HB.out | apply below_alloc | apply pw_below_drewN | apply below_drew1 | refine below_set ?_ GE321.out | refine below_set ?_ GE327.out) | exact HB.out)⟩⟩
 case round =>
  clear H'
  try clear c1
  try clear c2
  try clear p2
  try clear c5
  try clear c6
  try clear p6
  try clear c8
  try clear c8b0
  try clear c8b1
  try clear c9
  try clear c9b0
  try clear c9b1
  try clear c11
  try clear c11b0
  try clear c11b1
  try clear c12
  try clear c13
  try clear c13b0
  try clear c13b1
  try clear c14
  try clear c23
  try clear c28
  try clear hcz19_0
  try clear hcz19_1
  try clear hcz24_0
  try clear hcz24_1
  try clear hcz25_0
  try clear hcz25_1
  try clear hcz27_0
  try clear hcz27_1
  try clear hfz19_0
  try clear hfz19_1
  try clear hfz24_0
  try clear hfz24_1
  try clear hfz25_0
  try clear hfz25_1
  try clear hfz27_0
  try clear hfz27_1
  obtain ⟨x12_1, x13_1, x63_1, rfl, rfl, rfl, HA, HK1, HO_322000, HO_328000, BK321, BK327, HB⟩ := hrel
  cases gk with
  | zero => exact absurd HA.out (by simp [standbylaw55_CurveWindows.l0])
  | succ k1 =>
   have H := HA.out
   clear HA
   simp only [standbylaw55_CurveWindows.l0] at H
   by_cases c29 : x63_1 < (wrap64 ((l0.length : Int) + 3))
   ·rw [if_pos c29] at H
    have c29b0 : decide (x63_1 < (wrap64 ((l0.length : Int) + 3))) = true := decide_eq_true c29
    clear c29
    replace H := Option.bind_eq_some_iff.mp H
    obtain ⟨t332, A300, H⟩ := H
    replace H : (standbylaw55_CurveWindows.l0 k1 l0 a1 (Int.tmod (wrap64 (a2)) 70) (mx x12_1 t332) (mn x13_1 t332) (wrap64 ((l0.length : Int) + 3)) (wrap64 (x63_1 + 1)) t316 t319 t322 t325) = some r := H
    have A30 := Aside0.mk A300
    clear A300
    obtain ⟨ji31, hji31⟩ : ∃ j_ : Int, (mx x12_1 t332) = j_ := ⟨_, rfl⟩
    replace H : (standbylaw55_CurveWindows.l0 k1 l0 a1 (Int.tmod (wrap64 (a2)) 70) ji31 (mn x13_1 t332) (wrap64 ((l0.length : Int) + 3)) (wrap64 (x63_1 + 1)) t316 t319 t322 t325) = some r := by first | (rw [hji31] at H; exact H) | (simp only [hji31] at H ⊢; exact H)
    (try rw [hji31] at A30)
    have hji31_ : (if x12_1 < t332 then t332 else x12_1) = ji31 := hji31
    obtain ⟨ji32, hji32⟩ : ∃ j_ : Int, (mn x13_1 t332) = j_ := ⟨_, rfl⟩
    replace H : (standbylaw55_CurveWindows.l0 k1 l0 a1 (Int.tmod (wrap64 (a2)) 70) ji31 ji32 (wrap64 ((l0.length : Int) + 3)) (wrap64 (x63_1 + 1)) t316 t319 t322 t325) = some r := by first | (rw [hji32] at H; exact H) | (simp only [hji32] at H ⊢; exact H)
    (try rw [hji32] at A30)
    have hji32_ : (if t332 < x13_1 then t332 else x13_1) = ji32 := hji32
    have H' := Aside0.mk H
    clear H
    go_wp2_with (first | ((with_reducible refine gate_callee (f := 29) rfl ?_); refine goesL_ (some 70) rfl rfl Try.func29 (by kernel_rfl) rfl #[.slice A0 l0.length c0, .int .i64 a1, .int .i64 x63_1, .int .i64 (Int.tmod (wrap64 (a2)) 70)] rfl (by (try simp only [List.map_toArray, List.map_cons, List.map_nil]); first | done | rfl | (simp only [List.length_drop, List.length_take]; rfl)) ?_; (with_reducible refine (standbyref55_Window.calls k1 _ _ l0 a1 x63_1 (Int.tmod (wrap64 (a2)) 70) t332 _ ?side1 ?side2 A30.out).mono ?_); (case side1 => exact qC HR0.out HB.out); (case side2 => exact HC0.out); rintro e w' ⟨rfl, ⟨nd, rfl⟩⟩; refine ⟨_, rfl, ?_⟩))
    go_roundg k1
    case measure => have := HK1.out; omega
    case rel => exact ⟨(ji31), (ji32), (wrap64 (x63_1 + 1)), (by first | rfl | (simp; done) | (simp only [← hji31] <;> (first | rfl | simp)) | (simp [*]; done)), (by first | rfl | (simp; done) | (simp only [← hji32] <;> (first | rfl | simp)) | (simp [*]; done)), (by first | rfl | (simp; done) | (simp [*]; done)), H', ⟨by have := HK1.out; omega⟩, ⟨by exact qR HO_322000.out⟩, ⟨by exact qR HO_328000.out⟩, ⟨by exact qB BK321.out⟩, ⟨by exact qB BK327.out⟩, ⟨by repeat (first | (with_reducible first | exact HB.out | apply below_alloc | apply pw_below_drewN | apply below_drew1 | refine below_set ?_ GE321.out | refine below_set ?_ GE327.out) | exact HB.out)⟩⟩
   ·rw [if_neg c29] at H
    have c29b0 : decide (x63_1 < (wrap64 ((l0.length : Int) + 3))) = false := decide_eq_false c29
    clear c29
    replace H := Option.bind_eq_some_iff.mp H
    obtain ⟨t333, A330, H⟩ := H
    replace H : (if t333 = x12_1 then ((curve_At.f k1 t322 t325 (Int.tmod (wrap64 (a2)) 70)).bind fun t334 => (if t334 = x13_1 then ((standbylaw55_awake.f k1).bind fun t335 => (some t335)) else (none))) else (none)) = some r := H
    have A33 := Aside0.mk A330
    clear A330
    by_cases c34 : t333 = x12_1
    case neg =>
     rw [if_neg c34] at H
     exact absurd H (by simp)
    rw [if_pos c34] at H
    have c34b0 : (t333 == x12_1) = true := beq_iff_eq.mpr c34
    have c34b1 : (t333 != x12_1) = false := bne_eq_false_iff_eq.mpr c34
    clear c34
    replace H := Option.bind_eq_some_iff.mp H
    obtain ⟨t334, A350, H⟩ := H
    replace H : (if t334 = x13_1 then ((standbylaw55_awake.f k1).bind fun t335 => (some t335)) else (none)) = some r := H
    have A35 := Aside0.mk A350
    clear A350
    by_cases c36 : t334 = x13_1
    case neg =>
     rw [if_neg c36] at H
     exact absurd H (by simp)
    rw [if_pos c36] at H
    have c36b0 : (t334 == x13_1) = true := beq_iff_eq.mpr c36
    have c36b1 : (t334 != x13_1) = false := bne_eq_false_iff_eq.mpr c36
    clear c36
    replace H := Option.bind_eq_some_iff.mp H
    obtain ⟨t335, A370, H⟩ := H
    replace H : (some t335) = some r := H
    have A37 := Aside0.mk A370
    clear A370
    obtain rfl := Option.some.inj H
    have hnb38 := NB321_327.out
    have hnc38 := NB327_321.out
    have hcz39_0 : wr.cell? ⟨gb321, 0, none⟩ = some (.slice Ao18 t316.length co18) := (blk_cell BK321.out 0).trans rfl
    have hcz39_1 : wr.cell? ⟨gb321, 1, none⟩ = some (.int .i64 t319) := (blk_cell BK321.out 1).trans rfl
    have hfz39_0 := blk_frozen BK321.out 0
    have hfz39_1 := blk_frozen BK321.out 1
    go_wp2_with (first | ((with_reducible refine gate_callee (f := 18) rfl ?_); refine goesL_ (some 80) rfl rfl Try.func18 (by kernel_rfl) rfl #[.agg #[.slice Ao18 t316.length co18, .int .i64 t319], .int .i64 (Int.tmod (wrap64 (a2)) 70)] rfl (by (try simp only [List.map_toArray, List.map_cons, List.map_nil]); first | done | rfl | (simp only [List.length_drop, List.length_take]; rfl)) ?_; (with_reducible refine (curve_At.calls k1 _ _ t316 t319 (Int.tmod (wrap64 (a2)) 70) t333 _ ?side1 ?side2 A33.out).mono ?_); (case side1 => repeat (first | exact (Kd.R_reads' HO_322000.out).2.2 | (with_reducible refine Kd.C_alloc ?_ _) | (with_reducible refine Kd.C_drewN ?_ _) | (with_reducible refine Kd.C_drew ?_))); (case side2 => exact (Kd.R_reads' HO_322000.out).2.1); rintro e w40 ⟨rfl, hb⟩; refine ⟨_, rfl, ?_⟩; have n0_ := Aside0.mk (Kd.R_below (qR HO_322000.out) hb); have n1_ := Aside0.mk (Kd.R_below (qR HO_328000.out) hb); have n2_ := Aside0.mk (blk_below (qB BK321.out) hb); have n3_ := Aside0.mk (blk_below (qB BK327.out) hb); have n4_ := Aside0.mk (below_step (qW HB.out) hb); clear HO_322000 HO_328000 BK321 BK327 HB; have HO_322000 := n0_; have HO_328000 := n1_; have BK321 := n2_; have BK327 := n3_; have HB := n4_; clear n0_ n1_ n2_ n3_ n4_; (try clear hb); (try clear hb2); (try clear hk); (try clear hi); have hcz41_0 : w40.cell? ⟨gb327, 0, none⟩ = some (.slice Ao22 t322.length co22) := (blk_cell BK327.out 0).trans rfl; have hcz41_1 : w40.cell? ⟨gb327, 1, none⟩ = some (.int .i64 t325) := (blk_cell BK327.out 1).trans rfl; have hfz41_0 := blk_frozen BK327.out 0; have hfz41_1 := blk_frozen BK327.out 1) | (go_at_call 18; (with_reducible refine (curve_At.calls k1 _ _ t322 t325 (Int.tmod (wrap64 (a2)) 70) t334 _ ?side1 ?side2 A35.out).mono ?_); (case side1 => repeat (first | exact (Kd.R_reads' HO_328000.out).2.2 | (with_reducible refine Kd.C_alloc ?_ _) | (with_reducible refine Kd.C_drewN ?_ _) | (with_reducible refine Kd.C_drew ?_))); (case side2 => exact (Kd.R_reads' HO_328000.out).2.1); rintro e w42 ⟨rfl, hb⟩; have n0_ := Aside0.mk (Kd.R_below (qR HO_322000.out) hb); have n1_ := Aside0.mk (Kd.R_below (qR HO_328000.out) hb); have n2_ := Aside0.mk (blk_below (qB BK321.out) hb); have n3_ := Aside0.mk (blk_below (qB BK327.out) hb); have n4_ := Aside0.mk (below_step (qW HB.out) hb); clear HO_322000 HO_328000 BK321 BK327 HB; have HO_322000 := n0_; have HO_328000 := n1_; have BK321 := n2_; have BK327 := n3_; have HB := n4_; clear n0_ n1_ n2_ n3_ n4_; (try clear hb); (try clear hb2); (try clear hk); (try clear hi)) | (go_at_call 11; (with_reducible refine (standbylaw55_awake.calls k1  t335 _ A37.out).mono ?_); rintro e w43 ⟨rfl, hb⟩; have n0_ := Aside0.mk (Kd.R_below (qR HO_322000.out) hb); have n1_ := Aside0.mk (Kd.R_below (qR HO_328000.out) hb); have n2_ := Aside0.mk (blk_below (qB BK321.out) hb); have n3_ := Aside0.mk (blk_below (qB BK327.out) hb); have n4_ := Aside0.mk (below_step (qW HB.out) hb); clear HO_322000 HO_328000 BK321 BK327 HB; have HO_322000 := n0_; have HO_328000 := n1_; have BK321 := n2_; have BK327 := n3_; have HB := n4_; clear n0_ n1_ n2_ n3_ n4_; (try clear hb); (try clear hb2); (try clear hk); (try clear hi)))
    go_ret
    exact ⟨by first | rfl | (simp [errW_none, errW_some] <;> rfl) | (simp [*, errW_none, errW_some] <;> rfl), by repeat (first | (with_reducible first | exact HB.out | apply below_alloc | apply pw_below_drewN | apply below_drew1 | refine below_set ?_ GE321.out | refine below_set ?_ GE327.out) | exact HB.out)⟩
/-- THE ONE PURE STATEMENT of standbylaw55_CurveWindows: yours. -/
def standbylaw55_CurveWindows.Pure : Prop := ∀ (l0 : List Int) (a1 : Int) (a2 : Int), l0.length ≤ maxLen → l0.length * 8 ≤ 140737488351232 → (∀ x ∈ l0, (Lit.int .i64 x).wf = true) → (Lit.int .i64 a1).wf = true → (Lit.int .u8 a2).wf = true → ∃ k, standbylaw55_CurveWindows.f k l0 a1 a2 = some true
theorem standbylaw55_CurveWindows.walk (P : standbylaw55_CurveWindows.Pure) (a0 : Option Addr) (len0 cap0 : Nat) (z0 : List Int) (a1 : Int) (a2 : Int) (w : World) (w0 : (a0 = none ∧ len0 = 0 ∧ cap0 = 0 ∧ z0 = []) ∨ ∃ x, a0 = some x ∧ len0 ≤ cap0 ∧ cap0 ≤ maxLen ∧ z0.length = cap0 ∧ (∀ i, i < z0.length → w.cell? (x.add i) = some (.int .i64 (z0.getD i 0))) ∧ ∀ n ∈ z0, (Lit.int .i64 n).wf = true) (y0 : len0 * 8 ≤ 140737488351232) (w1 : (Lit.int .i64 a1).wf = true) (w2 : (Lit.int .u8 a2).wf = true) :
  Calls Try.prog 6 #[.slice a0 len0 cap0, .int .i64 a1, .int .u8 a2] w fun e w' => e = .returned (.bool true) ∧ Below w.heap.size w w' := by
 obtain ⟨l0, rfl, hr0, hm0, hw0, hc0⟩ := ReadsInt.ofRowC w0
 obtain ⟨k, h⟩ := P l0 a1 a2 hm0 y0 hw0 w1 w2
 refine (standbylaw55_CurveWindows.calls k _ _ l0 a1 a2 true w (Kd.C_of_reads (d := (0 : Int)) (h1 := fun _ => rfl) hr0) hc0 h).mono ?_
 rintro e w' ⟨rfl, hd⟩
 exact ⟨rfl, hd⟩

end Go.Proofs.Ytanlonngekgibaa.Pr

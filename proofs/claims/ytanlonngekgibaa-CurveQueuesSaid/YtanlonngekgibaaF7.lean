-- Written by pp.py, a program of this session, over the translation of the given program; a machine's text: Lean checks it.
import Derived.Test.YtanlonngekgibaaGShort
import Derived.Test.YtanlonngekgibaaF11
import Derived.Test.YtanlonngekgibaaF28
import Derived.Test.YtanlonngekgibaaGDelay
import Derived.Test.YtanlonngekgibaaGWin
namespace Go.Proofs.Ytanlonngekgibaa.Pr
open Go.RowKit Go.Proofs.YtanlonngekgibaaW.PrintWords Go.Proofs.YtanlonngekgibaaW.PrintLast Go.Proofs.YtanlonngekgibaaW.PrintMore
attribute [local go_sem] max2_int min2_int max_two min_two max_three min_three max_four min_four   -- for this text's walks alone
set_option linter.unusedVariables false
set_option linter.unusedSimpArgs false

/-! ### standbylaw55_CurveQueues: function 7 -/
mutual
def standbylaw55_CurveQueues.j0 : Nat → List Int → List Int → Int → Bool → Option (Bool)
 | 0, _, _, _, _ => none
 | k + 1, x0, x1, x2, x30 => if x30 = true then ((standbylaw55_awake.f k).bind fun t339 => (some t339)) else ((curve_Arrival.f x0 0).bind fun bt340 => ((curve_Service.f x1 x2).bind fun bt346 => (if bt340.2.2 = 0 then (if bt346.2.2 = 0 then ((curve_Delay.f k bt340.1 bt340.2.1 bt346.1 bt346.2.1).bind fun bt352 => ((curve_Backlog.f k bt340.1 bt340.2.1 bt346.1 bt346.2.1).bind fun bt354 => (if bt354.2 = 0 then (standbylaw55_CurveQueues.l0 k x0 x1 x2 bt352.1 bt352.2 bt354.1 (([0] : List Int)) (([0] : List Int)) 0) else (none)))) else (none)) else (none))))
def standbylaw55_CurveQueues.l0 : Nat → List Int → List Int → Int → Int → Int → Int → List Int → List Int → Int → Option (Bool)
 | 0, _, _, _, _, _, _, _, _, _ => none
 | k + 1, x0, x1, x2, x11, x12, x13, x15, x16, x65 => if x65 < 100 then (if x65 < (x0.length : Int) then (if 0 ≤ x65 then (standbylaw55_CurveQueues.j2 k x0 x1 x2 x11 x12 x13 x15 x16 x65 (rd x0 x65) x2 x65) else (none)) else (standbylaw55_CurveQueues.j2 k x0 x1 x2 x11 x12 x13 x15 x16 x65 0 x2 x65)) else (standbylaw55_CurveQueues.l1 k x11 x12 x13 x15 x16 (x15.length : Int) 0)
def standbylaw55_CurveQueues.j2 : Nat → List Int → List Int → Int → Int → Int → Int → List Int → List Int → Int → Int → Int → Int → Option (Bool)
 | 0, _, _, _, _, _, _, _, _, _, _, _, _ => none
 | k + 1, x0, x1, x2, x11, x12, x13, x15, x16, x17, x18, x19, x65 => if x17 < (x1.length : Int) then (if 0 ≤ x17 then (if x17 < (x15.length : Int) then ((some (([wrap64 ((rd x15 x17) + x18)] : List Int) : List Int)).bind fun y365 => (if x15.length + y365.length < 17592186044416 then (if x17 < (x16.length : Int) then ((some (([mn (wrap64 ((rd x15 x17) + x18)) (wrap64 ((rd x16 x17) + (rd x1 x17)))] : List Int) : List Int)).bind fun y372 => (if x16.length + y372.length < 17592186044416 then (standbylaw55_CurveQueues.l0 k x0 x1 x2 x11 x12 x13 (x15 ++ y365) (x16 ++ y372) (wrap64 (x65 + 1))) else (none))) else (none)) else (none))) else (none)) else (none)) else (if 0 ≤ x17 then (if x17 < (x15.length : Int) then ((some (([wrap64 ((rd x15 x17) + x18)] : List Int) : List Int)).bind fun y379 => (if x15.length + y379.length < 17592186044416 then (if x17 < (x16.length : Int) then ((some (([mn (wrap64 ((rd x15 x17) + x18)) (wrap64 ((rd x16 x17) + x19))] : List Int) : List Int)).bind fun y386 => (if x16.length + y386.length < 17592186044416 then (standbylaw55_CurveQueues.l0 k x0 x1 x2 x11 x12 x13 (x15 ++ y379) (x16 ++ y386) (wrap64 (x65 + 1))) else (none))) else (none)) else (none))) else (none)) else (none))
def standbylaw55_CurveQueues.l1 : Nat → Int → Int → Int → List Int → List Int → Int → Int → Option (Bool)
 | 0, _, _, _, _, _, _, _ => none
 | k + 1, x11, x12, x13, x15, x16, x108, x109 => if x109 < x108 then (if 0 ≤ x109 then (if x109 < (x15.length : Int) then (if x109 < (x16.length : Int) then (if (wrap64 ((rd x15 x109) - (rd x16 x109))) > x13 then (none) else (if x12 = 0 then (if (wrap64 (x109 + x11)) < (x16.length : Int) then (if 0 ≤ (wrap64 (x109 + x11)) then (standbylaw55_CurveQueues.j4 k x11 x12 x13 x15 x16 x108 x109 (decide ((rd x16 (wrap64 (x109 + x11))) < (rd x15 x109)))) else (none)) else (standbylaw55_CurveQueues.j4 k x11 x12 x13 x15 x16 x108 x109 false)) else (standbylaw55_CurveQueues.j4 k x11 x12 x13 x15 x16 x108 x109 false))) else (none)) else (none)) else (none)) else ((standbylaw55_awake.f k).bind fun t396 => (some t396))
def standbylaw55_CurveQueues.j4 : Nat → Int → Int → Int → List Int → List Int → Int → Int → Bool → Option (Bool)
 | 0, _, _, _, _, _, _, _, _ => none
 | k + 1, x11, x12, x13, x15, x16, x108, x109, x145 => if x145 = true then (none) else (standbylaw55_CurveQueues.l1 k x11 x12 x13 x15 x16 x108 (wrap64 (x109 + 1)))
end
def standbylaw55_CurveQueues.f (k : Nat) (l0 : List Int) (l1 : List Int) (a2 : Int) : Option (Bool) := (standbylaw55_small.f l0 0).bind fun t336 => (if t336 = true then ((standbylaw55_small.f l1 a2).bind fun t337 => (standbylaw55_CurveQueues.j0 k l0 l1 a2 (!t337))) else (standbylaw55_CurveQueues.j0 k l0 l1 a2 true))
def standbylaw55_CurveQueues.T21 : Bool × List (List Nat × List Nat) := (true, [([], []), ([], []), ([1], [1]), ([0, 2], [0, 2]), ([], []), ([], []), ([], []), ([], []), ([6, 7], [6, 7]), ([8], [8]), ([], []), ([9, 10], [9, 10]), ([5, 11], [5, 11]), ([12], [12]), ([4, 13, 3], [4, 13]), ([3, 14, 0, 1, 2, 3], [0, 3]), ([14, 15, 0, 1, 2, 3, 4, 5, 6, 7, 8, 9, 10, 11, 12, 13, 14, 15], [4, 6, 14])])
def standbylaw55_CurveQueues.B21 : List Nat := [0, 0, 2, 7, 0, 0, 0, 0, 192, 448, 0, 1984, 4064, 8160, 16383, 32767, 65535]
theorem standbylaw55_CurveQueues.tab21 : rtab .any (opsOf Try.f7 21) = standbylaw55_CurveQueues.T21 := by kernel_rfl
theorem standbylaw55_CurveQueues.bits21 : waitsOk standbylaw55_CurveQueues.T21.2 standbylaw55_CurveQueues.B21 = true := by kernel_rfl
def standbylaw55_CurveQueues.T26 : Bool × List (List Nat × List Nat) := (true, [([], []), ([], []), ([0, 1], [0, 1]), ([2], [2]), ([], []), ([], []), ([4, 5], [4, 5]), ([6], [6]), ([3, 7], [3, 7]), ([], []), ([8, 9], [8, 9])])
def standbylaw55_CurveQueues.B26 : List Nat := [0, 0, 3, 7, 0, 0, 48, 112, 255, 0, 1023]
theorem standbylaw55_CurveQueues.tab26 : rtab .any (opsOf Try.f7 26) = standbylaw55_CurveQueues.T26 := by kernel_rfl
theorem standbylaw55_CurveQueues.bits26 : waitsOk standbylaw55_CurveQueues.T26.2 standbylaw55_CurveQueues.B26 = true := by kernel_rfl
def standbylaw55_CurveQueues.T28 : Bool × List (List Nat × List Nat) := (true, [([], []), ([0], [0]), ([1], [1]), ([2], [2]), ([2], [2]), ([3, 4, 2], [2, 3, 4]), ([2], [2]), ([6, 2], [2, 6]), ([5, 7, 2], [2, 5, 7]), ([2, 8], [2, 8]), ([9, 2], [9]), ([10], [10]), ([10], [10]), ([10], [10]), ([12, 13, 10], [10, 12, 13]), ([11, 14, 10], [10, 11, 14]), ([15, 10], [10, 15]), ([10], [10]), ([10], [10]), ([17, 18, 10], [10, 17, 18]), ([19, 10], [10, 19]), ([16, 20, 10], [10, 16, 20]), ([10, 21], [10, 21])])
def standbylaw55_CurveQueues.B28 : List Nat := [0, 1, 3, 7, 7, 31, 7, 71, 255, 511, 1023, 2047, 2047, 2047, 14335, 32767, 65535, 2047, 2047, 395263, 919551, 2097151, 4194303]
theorem standbylaw55_CurveQueues.tab28 : rtab .any (opsOf Try.f7 28) = standbylaw55_CurveQueues.T28 := by kernel_rfl
theorem standbylaw55_CurveQueues.bits28 : waitsOk standbylaw55_CurveQueues.T28.2 standbylaw55_CurveQueues.B28 = true := by kernel_rfl
set_option maxHeartbeats 8000000 in
set_option maxRecDepth 100000 in
theorem standbylaw55_CurveQueues.calls (k : Nat) (A0 : Option Addr) (c0 : Nat) (l0 : List Int) (A1 : Option Addr) (c1 : Nat) (l1 : List Int) (a2 : Int) (r : Bool) (w : World) (hr0 : Kd.C (Kd.int .i64) w A0 l0.length l0) (hc0 : l0.length ≤ c0) (hr1 : Kd.C (Kd.int .i64) w A1 l1.length l1) (hc1 : l1.length ≤ c1) (h : standbylaw55_CurveQueues.f k l0 l1 a2 = some r) :
  Calls Try.prog 7 #[.slice A0 l0.length c0, .slice A1 l1.length c1, .int .i64 a2] w fun e w' => e = .returned (.bool r) ∧ Below w.heap.size w w' := by
 have hu24 := Try.underlying24
 have HR0 := Aside0.mk hr0
 have HC0 := Aside0.mk hc0
 clear hr0 hc0
 have HR1 := Aside0.mk hr1
 have HC1 := Aside0.mk hc1
 clear hr1 hc1
 have HB := Aside0.mk (Below.refl w.heap.size w)
 have H : ((standbylaw55_small.f l0 0).bind fun t336 => (if t336 = true then ((standbylaw55_small.f l1 a2).bind fun t337 => (standbylaw55_CurveQueues.j0 k l0 l1 a2 (!t337))) else (standbylaw55_CurveQueues.j0 k l0 l1 a2 true))) = some r := h
 clear h
 have HC4 := Aside0.mk H
 clear H
 go_enter Try.func7, Try.ntmps7
 go_upto_region 1 with (fail)
 go_cut [30] (fun v30 wc => ∃ (kq : Nat) (x30_3 : Bool), v30 = .bool x30_3 ∧ Aside0 (standbylaw55_CurveQueues.j0 kq l0 l1 a2 x30_3 = some r) ∧ Aside0 (kq ≤ k) ∧ Aside0 (Below w.heap.size w wc))
 case first =>
  have H := HC4.out
  clear HC4
  replace H := Option.bind_eq_some_iff.mp H
  obtain ⟨t336, A50, H⟩ := H
  replace H : (if t336 = true then ((standbylaw55_small.f l1 a2).bind fun t337 => (standbylaw55_CurveQueues.j0 k l0 l1 a2 (!t337))) else (standbylaw55_CurveQueues.j0 k l0 l1 a2 true)) = some r := H
  have A5 := Aside0.mk A50
  clear A50
  by_cases c6 : t336 = true
  case neg =>
   replace c6 := Bool.eq_false_iff.mpr c6
   subst c6
   have H1 : (standbylaw55_CurveQueues.j0 k l0 l1 a2 true) = some r := by rw [if_neg (show ¬ (false = true) by decide)] at H; exact H
   clear H
   have H := H1
   clear H1
   have H' := Aside0.mk H
   clear H
   go_wp2_with (first | ((with_reducible refine gate_callee (f := 28) rfl ?_); refine goesL_ (some 23) rfl rfl Try.func28 (by kernel_rfl) rfl #[.slice A0 l0.length c0, .int .i64 0] rfl (by (try simp only [List.map_toArray, List.map_cons, List.map_nil]); first | done | rfl | (simp only [List.length_drop, List.length_take]; rfl)) ?_; (with_reducible refine (standbylaw55_small.calls _ _ l0 0 false _ ?side1 ?side2 A5.out).mono ?_); (case side1 => exact qC HR0.out HB.out); (case side2 => exact HC0.out); rintro e w' ⟨rfl, ⟨nd, rfl⟩⟩; refine ⟨_, rfl, ?_⟩))
   go_meet
   case rel => exact ⟨_, (true), (by first | rfl | (simp; done) | (simp [*]; done)), H', ⟨by first | omega | exact Nat.le_refl _⟩, ⟨by repeat (first | (with_reducible first | exact HB.out | apply below_alloc | apply pw_below_drewN | apply below_drew1) | exact HB.out)⟩⟩
  subst c6
  have H1 : ((standbylaw55_small.f l1 a2).bind fun t337 => (standbylaw55_CurveQueues.j0 k l0 l1 a2 (!t337))) = some r := by rw [if_pos rfl] at H; exact H
  clear H
  have H := H1
  clear H1
  replace H := Option.bind_eq_some_iff.mp H
  obtain ⟨t337, A70, H⟩ := H
  replace H : (standbylaw55_CurveQueues.j0 k l0 l1 a2 (!t337)) = some r := H
  have A7 := Aside0.mk A70
  clear A70
  have H' := Aside0.mk H
  clear H
  go_wp2_with (first | ((with_reducible refine gate_callee (f := 28) rfl ?_); refine goesL_ (some 23) rfl rfl Try.func28 (by kernel_rfl) rfl #[.slice A0 l0.length c0, .int .i64 0] rfl (by (try simp only [List.map_toArray, List.map_cons, List.map_nil]); first | done | rfl | (simp only [List.length_drop, List.length_take]; rfl)) ?_; (with_reducible refine (standbylaw55_small.calls _ _ l0 0 true _ ?side1 ?side2 A5.out).mono ?_); (case side1 => exact qC HR0.out HB.out); (case side2 => exact HC0.out); rintro e w' ⟨rfl, ⟨nd, rfl⟩⟩; refine ⟨_, rfl, ?_⟩) | (go_at_call 28; (with_reducible refine (standbylaw55_small.calls _ _ l1 a2 t337 _ ?side1 ?side2 A7.out).mono ?_); (case side1 => repeat (first | exact (Kd.C_below HR1.out (qW HB.out)) | (with_reducible refine Kd.C_alloc ?_ _) | (with_reducible refine Kd.C_drewN ?_ _) | (with_reducible refine Kd.C_drew ?_))); (case side2 => exact HC1.out); rintro e w' ⟨rfl, ⟨nd, rfl⟩⟩))
  go_meet
  case rel => exact ⟨_, (!t337), (by first | rfl | (simp; done) | (simp [*]; done)), H', ⟨by first | omega | exact Nat.le_refl _⟩, ⟨by repeat (first | (with_reducible first | exact HB.out | apply below_alloc | apply pw_below_drewN | apply below_drew1) | exact HB.out)⟩⟩
 case rest =>
  clear HC4
  try clear c1
  try clear c2
  try clear p2
  try clear c6
  try clear c7
  obtain ⟨kq, x30_3, rfl, HA, HJ3, HB⟩ := hcut
  cases kq with
  | zero => exact absurd HA.out (by simp [standbylaw55_CurveQueues.j0])
  | succ kj3 =>
   have H := HA.out
   clear HA
   simp only [standbylaw55_CurveQueues.j0] at H
   by_cases c8 : x30_3 = true
   ·subst c8
    have H1 : ((standbylaw55_awake.f kj3).bind fun t339 => (some t339)) = some r := by rw [if_pos rfl] at H; exact H
    clear H
    have H := H1
    clear H1
    replace H := Option.bind_eq_some_iff.mp H
    obtain ⟨t339, A90, H⟩ := H
    replace H : (some t339) = some r := H
    have A9 := Aside0.mk A90
    clear A90
    obtain rfl := Option.some.inj H
    go_wp2_with (first | ((with_reducible refine gate_callee (f := 11) rfl ?_); refine goesL_ (some 31) rfl rfl Try.func11 (by kernel_rfl) rfl #[] rfl (by (try simp only [List.map_toArray, List.map_cons, List.map_nil]); first | done | rfl | (simp only [List.length_drop, List.length_take]; rfl)) ?_; (with_reducible refine (standbylaw55_awake.calls kj3  t339 _ A9.out).mono ?_); rintro e w10 ⟨rfl, hb⟩; refine ⟨_, rfl, ?_⟩; have n0_ := Aside0.mk (below_step (qW HB.out) hb); clear HB; have HB := n0_; clear n0_; (try clear hb); (try clear hb2); (try clear hk); (try clear hi)))
    go_ret
    exact ⟨by first | rfl | (simp [errW_none, errW_some] <;> rfl) | (simp [*, errW_none, errW_some] <;> rfl), by repeat (first | (with_reducible first | exact HB.out | apply below_alloc | apply pw_below_drewN | apply below_drew1) | exact HB.out)⟩
   ·replace c8 := Bool.eq_false_iff.mpr c8
    subst c8
    have H1 : ((curve_Arrival.f l0 0).bind fun bt340 => ((curve_Service.f l1 a2).bind fun bt346 => (if bt340.2.2 = 0 then (if bt346.2.2 = 0 then ((curve_Delay.f kj3 bt340.1 bt340.2.1 bt346.1 bt346.2.1).bind fun bt352 => ((curve_Backlog.f kj3 bt340.1 bt340.2.1 bt346.1 bt346.2.1).bind fun bt354 => (if bt354.2 = 0 then (standbylaw55_CurveQueues.l0 kj3 l0 l1 a2 bt352.1 bt352.2 bt354.1 (([0] : List Int)) (([0] : List Int)) 0) else (none)))) else (none)) else (none)))) = some r := by rw [if_neg (show ¬ (false = true) by decide)] at H; exact H
    clear H
    have H := H1
    clear H1
    replace H := Option.bind_eq_some_iff.mp H
    obtain ⟨⟨t340, t343, t344⟩, A110, H⟩ := H
    replace H : ((curve_Service.f l1 a2).bind fun bt346 => (if t344 = 0 then (if bt346.2.2 = 0 then ((curve_Delay.f kj3 t340 t343 bt346.1 bt346.2.1).bind fun bt352 => ((curve_Backlog.f kj3 t340 t343 bt346.1 bt346.2.1).bind fun bt354 => (if bt354.2 = 0 then (standbylaw55_CurveQueues.l0 kj3 l0 l1 a2 bt352.1 bt352.2 bt354.1 (([0] : List Int)) (([0] : List Int)) 0) else (none)))) else (none)) else (none))) = some r := H
    have A11 := Aside0.mk A110
    clear A110
    replace H := Option.bind_eq_some_iff.mp H
    obtain ⟨⟨t346, t349, t350⟩, A120, H⟩ := H
    replace H : (if t344 = 0 then (if t350 = 0 then ((curve_Delay.f kj3 t340 t343 t346 t349).bind fun bt352 => ((curve_Backlog.f kj3 t340 t343 t346 t349).bind fun bt354 => (if bt354.2 = 0 then (standbylaw55_CurveQueues.l0 kj3 l0 l1 a2 bt352.1 bt352.2 bt354.1 (([0] : List Int)) (([0] : List Int)) 0) else (none)))) else (none)) else (none)) = some r := H
    have A12 := Aside0.mk A120
    clear A120
    by_cases c13 : t344 = 0
    case neg =>
     rw [if_neg c13] at H
     exact absurd H (by simp)

    rw [if_pos c13] at H
    have c13b0 : (t344 == 0) = true := beq_iff_eq.mpr c13
    have c13b1 : (t344 != 0) = false := bne_eq_false_iff_eq.mpr c13
    clear c13
    by_cases c14 : t350 = 0
    case neg =>
     rw [if_neg c14] at H
     exact absurd H (by simp)
    rw [if_pos c14] at H
    have c14b0 : (t350 == 0) = true := beq_iff_eq.mpr c14
    have c14b1 : (t350 != 0) = false := bne_eq_false_iff_eq.mpr c14
    clear c14
    replace H := Option.bind_eq_some_iff.mp H
    obtain ⟨⟨t352, t353⟩, A150, H⟩ := H
    replace H : ((curve_Backlog.f kj3 t340 t343 t346 t349).bind fun bt354 => (if bt354.2 = 0 then (standbylaw55_CurveQueues.l0 kj3 l0 l1 a2 t352 t353 bt354.1 (([0] : List Int)) (([0] : List Int)) 0) else (none))) = some r := H
    have A15 := Aside0.mk A150
    clear A150
    replace H := Option.bind_eq_some_iff.mp H
    obtain ⟨⟨t354, t355⟩, A160, H⟩ := H
    replace H : (if t355 = 0 then (standbylaw55_CurveQueues.l0 kj3 l0 l1 a2 t352 t353 t354 (([0] : List Int)) (([0] : List Int)) 0) else (none)) = some r := H
    have A16 := Aside0.mk A160
    clear A160
    by_cases c17 : t355 = 0
    case neg =>
     rw [if_neg c17] at H
     exact absurd H (by simp)
    rw [if_pos c17] at H
    have c17b0 : (t355 == 0) = true := beq_iff_eq.mpr c17
    have c17b1 : (t355 != 0) = false := bne_eq_false_iff_eq.mpr c17
    clear c17
    obtain ⟨y356, hy356⟩ : ∃ y_ : List Int, y_ = (([0] : List Int)) := ⟨_, rfl⟩
    replace H : (standbylaw55_CurveQueues.l0 kj3 l0 l1 a2 t352 t353 t354 y356 (([0] : List Int)) 0) = some r := by first | (rw [hy356]; with_reducible exact H) | (have H2_ := (Option.bind_some _ _).symm.trans H; rw [hy356]; with_reducible exact H2_) | (have H2_ := (Option.bind_some _ _).symm.trans H; with_reducible exact H2_) | with_reducible exact H | (rw [hy356]; exact H) | exact H
    have Ny356 := Aside0.mk hy356
    clear hy356
    obtain ⟨y359, hy359⟩ : ∃ y_ : List Int, y_ = (([0] : List Int)) := ⟨_, rfl⟩
    replace H : (standbylaw55_CurveQueues.l0 kj3 l0 l1 a2 t352 t353 t354 y356 y359 0) = some r := by first | (rw [hy359]; with_reducible exact H) | (have H2_ := (Option.bind_some _ _).symm.trans H; rw [hy359]; with_reducible exact H2_) | (have H2_ := (Option.bind_some _ _).symm.trans H; with_reducible exact H2_) | with_reducible exact H | (rw [hy359]; exact H) | exact H
    have Ny359 := Aside0.mk hy359
    clear hy359
    have H' := Aside0.mk H
    clear H
    go_wp2_with (first | ((with_reducible refine gate_callee (f := 12) rfl ?_); refine goesL_ (some 34) rfl rfl Try.func12 (by kernel_rfl) rfl #[.slice A0 l0.length c0, .int .i64 0] rfl (by (try simp only [List.map_toArray, List.map_cons, List.map_nil]); first | done | rfl | (simp only [List.length_drop, List.length_take]; rfl)) ?_; (with_reducible refine (curve_Arrival.calls _ _ l0 0 t340 t343 t344 _ ?side1 ?side2 A11.out).mono ?_); (case side1 => exact qC HR0.out HB.out); (case side2 => exact HC0.out); rintro e w18 ⟨v341, rfl, ho0, hb⟩; refine ⟨_, rfl, ?_⟩; have n0_ := Aside0.mk (Kd.R_lower ho0 (below_size (qW HB.out))); have n1_ := Aside0.mk (below_step (qW HB.out) hb); clear HB; have HO342 := n0_; have HB := n1_; clear n0_ n1_; (try clear hb); (try clear hb2); (try clear hk); (try clear hi); (try clear ho0)) | ((with_reducible refine gate_dst (N := 7) rfl ?_); (try (refine gate_guard (by rfl) ?_; dsimp only)); refine box_event ?hg (N := 7) ?hd (cs := #[.slice none 0 0, .int .i64 0]) (t := 24) ?hr ?_; (case hd => rfl); (case hg => rfl); (case hr => first | (go_simp; done) | (go_simp; rfl)); intro gb345 hg w19 hbox hb; have n0_ := Aside0.mk (Kd.R_below (qR HO342.out) hb); have n1_ := Aside0.mk (below_step (qW HB.out) hb); have n2_ := Aside0.mk (hbox); have n3_ := Aside0.mk ((by rw [hg]; exact (below_size (qW HB.out)) : w.heap.size ≤ gb345)); have n4_ := Aside0.mk ((by rw [hg]; exact (below_size (qW HB.out)) : w.heap.size ≤ gb345)); clear HO342 HB; have HO342 := n0_; have HB := n1_; have BK345 := n2_; have GW345 := n3_; have GE345 := n4_; clear n0_ n1_ n2_ n3_ n4_ hb hbox hg; obtain ⟨Ao20, co20, eo20⟩ := Kd.R_slice HO342.out; subst eo20; have hcz21_0 : w19.cell? ⟨gb345, 0, none⟩ = some (.slice none 0 0) := (blk_cell BK345.out 0).trans rfl; have hcz21_1 : w19.cell? ⟨gb345, 1, none⟩ = some (.int .i64 0) := (blk_cell BK345.out 1).trans rfl; have hfz21_0 := blk_frozen BK345.out 0; have hfz21_1 := blk_frozen BK345.out 1) | ((with_reducible refine gate_callee (f := 14) rfl ?_); refine goesL_ (some 40) rfl rfl Try.func14 (by kernel_rfl) rfl #[.slice A1 l1.length c1, .int .i64 a2] rfl (by (try simp only [List.map_toArray, List.map_cons, List.map_nil]); first | done | rfl | (simp only [List.length_drop, List.length_take]; rfl)) ?_; (with_reducible refine (curve_Service.calls _ _ l1 a2 t346 t349 t350 _ ?side1 ?side2 A12.out).mono ?_); (case side1 => exact Kd.C_below HR1.out (qW HB.out)); (case side2 => exact HC1.out); rintro e w22 ⟨v347, rfl, ho0, hb⟩; refine ⟨_, rfl, ?_⟩; have n0_ := Aside0.mk (Kd.R_elder' (qR (Kd.R_mono (Kd.R_far (p := ⟨gb345, 1, none⟩) (Kd.R_far (p := ⟨gb345, 0, none⟩) (Kd.R_types HO342.out BK345.out (by decide)) (fun _ hk => hk.2) (.slice Ao20 t340.length co20)) (fun _ hk => hk.2) (.int .i64 t343)) (fun _ h_ => h_.1))) (Kd.R_base ho0) hb); have n1_ := Aside0.mk (Kd.R_lower (Kd.R_new' ho0 (Kd.R_lt (qR (Kd.R_mono (Kd.R_far (p := ⟨gb345, 1, none⟩) (Kd.R_far (p := ⟨gb345, 0, none⟩) (Kd.R_types HO342.out BK345.out (by decide)) (fun _ hk => hk.2) (.slice Ao20 t340.length co20)) (fun _ hk => hk.2) (.int .i64 t343)) (fun _ h_ => h_.1))))) (below_size (qW HB.out))); have n2_ := Aside0.mk (blk_below (g := gb345) (o := .cells #[.slice Ao20 t340.length co20, .int .i64 t343] 24 (0, 0)) (by (with_reducible repeat (first | refine blk_drewN ?_ _ | refine blk_drew ?_ | refine blk_alloc ?_ _)); refine blk_put (cs := #[.slice Ao20 t340.length co20, .int .i64 0]) ?_ 1 _ rfl; (with_reducible repeat (first | refine blk_drewN ?_ _ | refine blk_drew ?_ | refine blk_alloc ?_ _)); refine blk_put (cs := #[.slice none 0 0, .int .i64 0]) ?_ 0 _ rfl; exact qB BK345.out) hb); have n3_ := Aside0.mk (below_step (qW HB.out) hb); clear HO342 BK345 HB; have HO342 := n0_; have HO348 := n1_; have BK345 := n2_; have HB := n3_; clear n0_ n1_ n2_ n3_; (try clear hb); (try clear hb2); (try clear hk); (try clear hi); (try clear ho0)) | ((with_reducible refine gate_dst (N := 9) rfl ?_); (try (refine gate_guard (by rfl) ?_; dsimp only)); refine box_event ?hg (N := 9) ?hd (cs := #[.slice none 0 0, .int .i64 0]) (t := 24) ?hr ?_; (case hd => rfl); (case hg => rfl); (case hr => first | (go_simp; done) | (go_simp; rfl)); intro gb351 hg w23 hbox hb; have n0_ := Aside0.mk (Kd.R_below (qR HO342.out) hb); have n1_ := Aside0.mk (Kd.R_below (qR HO348.out) hb); have n2_ := Aside0.mk (blk_below (qB BK345.out) hb); have n3_ := Aside0.mk (below_step (qW HB.out) hb); have n4_ := Aside0.mk (hbox); have n5_ := Aside0.mk ((by rw [hg]; exact (below_size (qW HB.out)) : w.heap.size ≤ gb351)); have n6_ := Aside0.mk ((by rw [hg]; exact (below_size (qW HB.out)) : w.heap.size ≤ gb351)); have n7_ := Aside0.mk ((by rw [hg]; exact Nat.ne_of_lt (blk_lt (qB BK345.out)) : gb345 ≠ gb351)); have n8_ := Aside0.mk ((by rw [hg]; exact Nat.ne_of_gt (blk_lt (qB BK345.out)) : gb351 ≠ gb345)); clear HO342 HO348 BK345 HB; have HO342 := n0_; have HO348 := n1_; have BK345 := n2_; have HB := n3_; have BK351 := n4_; have GW351 := n5_; have GE351 := n6_; have NB345_351 := n7_; have NB351_345 := n8_; clear n0_ n1_ n2_ n3_ n4_ n5_ n6_ n7_ n8_ hb hbox hg; obtain ⟨Ao24, co24, eo24⟩ := Kd.R_slice HO348.out; subst eo24; have hnb25 := NB351_345.out; have hnc25 := NB345_351.out; have hcz26_0 : w23.cell? ⟨gb351, 0, none⟩ = some (.slice none 0 0) := (blk_cell BK351.out 0).trans rfl; have hcz26_1 : w23.cell? ⟨gb351, 1, none⟩ = some (.int .i64 0) := (blk_cell BK351.out 1).trans rfl; have hfz26_0 := blk_frozen BK351.out 0; have hfz26_1 := blk_frozen BK351.out 1; have hcz27_0 : w23.cell? ⟨gb345, 0, none⟩ = some (.slice Ao20 t340.length co20) := (blk_cell BK345.out 0).trans rfl; have hcz27_1 : w23.cell? ⟨gb345, 1, none⟩ = some (.int .i64 t343) := (blk_cell BK345.out 1).trans rfl; have hfz27_0 := blk_frozen BK345.out 0; have hfz27_1 := blk_frozen BK345.out 1) | ((with_reducible refine gate_callee (f := 24) rfl ?_); refine goesL_ (some 52) rfl rfl Try.func24 (by kernel_rfl) rfl #[.agg #[.slice Ao20 t340.length co20, .int .i64 t343], .agg #[.slice Ao24 t346.length co24, .int .i64 t349]] rfl (by (try simp only [List.map_toArray, List.map_cons, List.map_nil]); first | done | rfl | (simp only [List.length_drop, List.length_take]; rfl)) ?_; (with_reducible refine (curve_Delay.calls kj3 _ _ t340 t343 _ _ t346 t349 t352 t353 _ ?side1 ?side2 ?side3 ?side4 A15.out).mono ?_); (case side1 => refine (Kd.R_reads' (e := 3) (base := w.heap.size) (ok := fun k_ => (True ∧ some k_ ≠ (.slice Ao24 t346.length co24 : Value).ownBlock)) (n := t340.length) (c := co20) ?_).2.2; exact (qR (Kd.R_mono (Kd.R_far (p := ⟨gb351, 1, none⟩) (Kd.R_far (p := ⟨gb351, 0, none⟩) (Kd.R_types HO342.out BK351.out (by decide)) (fun _ hk => hk.2) (.slice Ao24 t346.length co24)) (fun _ hk => hk.2) (.int .i64 t349)) (fun _ h_ => h_.1)))); (case side2 => exact (Kd.R_reads' HO342.out).2.1); (case side3 => refine (Kd.R_reads' (e := 3) (base := w.heap.size) (ok := fun k_ => (True ∧ some k_ ≠ (.slice Ao20 t340.length co20 : Value).ownBlock)) (n := t346.length) (c := co24) ?_).2.2; exact (qR (Kd.R_mono (Kd.R_far (p := ⟨gb351, 1, none⟩) (Kd.R_far (p := ⟨gb351, 0, none⟩) (Kd.R_types HO348.out BK351.out (by decide)) (fun _ hk => hk.2) (.slice Ao24 t346.length co24)) (fun _ hk => hk.2) (.int .i64 t349)) (fun _ h_ => h_.1)))); (case side4 => exact (Kd.R_reads' HO348.out).2.1); rintro e w28 ⟨rfl, hb⟩; refine ⟨_, rfl, ?_⟩; have n0_ := Aside0.mk (Kd.R_below (qR (Kd.R_mono (Kd.R_far (p := ⟨gb351, 1, none⟩) (Kd.R_far (p := ⟨gb351, 0, none⟩) (Kd.R_types HO342.out BK351.out (by decide)) (fun _ hk => hk.2) (.slice Ao24 t346.length co24)) (fun _ hk => hk.2) (.int .i64 t349)) (fun _ h_ => h_.1))) hb); have n1_ := Aside0.mk (Kd.R_below (qR (Kd.R_mono (Kd.R_far (p := ⟨gb351, 1, none⟩) (Kd.R_far (p := ⟨gb351, 0, none⟩) (Kd.R_types HO348.out BK351.out (by decide)) (fun _ hk => hk.2) (.slice Ao24 t346.length co24)) (fun _ hk => hk.2) (.int .i64 t349)) (fun _ h_ => h_.1))) hb); have n2_ := Aside0.mk (blk_below (g := gb345) (o := .cells #[.slice Ao20 t340.length co20, .int .i64 t343] 24 (0, 0)) (by (with_reducible repeat (first | refine blk_drewN ?_ _ | refine blk_drew ?_ | refine blk_alloc ?_ _)); refine blk_far ?_ NB345_351.out _; (with_reducible repeat (first | refine blk_drewN ?_ _ | refine blk_drew ?_ | refine blk_alloc ?_ _)); refine blk_far ?_ NB345_351.out _; exact qB BK345.out) hb); have n3_ := Aside0.mk (blk_below (g := gb351) (o := .cells #[.slice Ao24 t346.length co24, .int .i64 t349] 24 (0, 0)) (by (with_reducible repeat (first | refine blk_drewN ?_ _ | refine blk_drew ?_ | refine blk_alloc ?_ _)); refine blk_put (cs := #[.slice Ao24 t346.length co24, .int .i64 0]) ?_ 1 _ rfl; (with_reducible repeat (first | refine blk_drewN ?_ _ | refine blk_drew ?_ | refine blk_alloc ?_ _)); refine blk_put (cs := #[.slice none 0 0, .int .i64 0]) ?_ 0 _ rfl; exact qB BK351.out) hb); have n4_ := Aside0.mk (below_step (qW HB.out) hb); clear HO342 HO348 BK345 BK351 HB; have HO342 := n0_; have HO348 := n1_; have BK345 := n2_; have BK351 := n3_; have HB := n4_; clear n0_ n1_ n2_ n3_ n4_; (try clear hb); (try clear hb2); (try clear hk); (try clear hi); have hcz29_0 : w28.cell? ⟨gb345, 0, none⟩ = some (.slice Ao20 t340.length co20) := (blk_cell BK345.out 0).trans rfl; have hcz29_1 : w28.cell? ⟨gb345, 1, none⟩ = some (.int .i64 t343) := (blk_cell BK345.out 1).trans rfl; have hfz29_0 := blk_frozen BK345.out 0; have hfz29_1 := blk_frozen BK345.out 1; have hcz30_0 : w28.cell? ⟨gb351, 0, none⟩ = some (.slice Ao24 t346.length co24) := (blk_cell BK351.out 0).trans rfl; have hcz30_1 : w28.cell? ⟨gb351, 1, none⟩ = some (.int .i64 t349) := (blk_cell BK351.out 1).trans rfl; have hfz30_0 := blk_frozen BK351.out 0; have hfz30_1 := blk_frozen BK351.out 1) | ((with_reducible refine gate_callee (f := 26) rfl ?_); refine goesL_ (some 58) rfl rfl Try.func26 (by kernel_rfl) rfl #[.agg #[.slice Ao20 t340.length co20, .int .i64 t343], .agg #[.slice Ao24 t346.length co24, .int .i64 t349]] rfl (by (try simp only [List.map_toArray, List.map_cons, List.map_nil]); first | done | rfl | (simp only [List.length_drop, List.length_take]; rfl)) ?_; (with_reducible refine (curve_Backlog.calls kj3 _ _ t340 t343 _ _ t346 t349 t354 t355 _ ?side1 ?side2 ?side3 ?side4 A16.out).mono ?_); (case side1 => repeat (first | exact (Kd.R_reads' HO342.out).2.2 | (with_reducible refine Kd.C_alloc ?_ _) | (with_reducible refine Kd.C_drewN ?_ _) | (with_reducible refine Kd.C_drew ?_))); (case side2 => exact (Kd.R_reads' HO342.out).2.1); (case side3 => repeat (first | exact (Kd.R_reads' HO348.out).2.2 | (with_reducible refine Kd.C_alloc ?_ _) | (with_reducible refine Kd.C_drewN ?_ _) | (with_reducible refine Kd.C_drew ?_))); (case side4 => exact (Kd.R_reads' HO348.out).2.1); rintro e w31 ⟨rfl, hb⟩; refine ⟨_, rfl, ?_⟩; have n0_ := Aside0.mk (Kd.R_below (qR HO342.out) hb); have n1_ := Aside0.mk (Kd.R_below (qR HO348.out) hb); have n2_ := Aside0.mk (blk_below (qB BK345.out) hb); have n3_ := Aside0.mk (blk_below (qB BK351.out) hb); have n4_ := Aside0.mk (below_step (qW HB.out) hb); clear HO342 HO348 BK345 BK351 HB; have HO342 := n0_; have HO348 := n1_; have BK345 := n2_; have BK351 := n3_; have HB := n4_; clear n0_ n1_ n2_ n3_ n4_; (try clear hb); (try clear hb2); (try clear hk); (try clear hi)) | ((with_reducible refine gate_dst (N := 63) rfl ?_); (try (refine gate_guard (by rfl) ?_; dsimp only)); refine Kd.R_lit (Kd.int .i64) _ 3 ?hg (N := 63) ?hd (xs := ([0] : List Int)) (inner := [.int .i64 0]) (ok := fun _ => True) (okp := fun _ => True) ?hr ?hp (fun _ hk => hk) trivial (Below.refl _ _) (Nat.le_refl _) (by simp) ?_; (case hd => rfl); (case hg => rfl); (case hr => first | (go_simp; done) | (go_simp; rfl)); (case hp => exact (Reps.one (show Kd.M (Kd.int .i64) _ _ _ 0 [.int .i64 0] from rfl) (Reps.none _ _))); intro v357 w32 ho33 hb hg_ hnew_; clear hg_ hnew_; (first | rw [← Ny356.out] at ho33 | (simp only [Int.reduceToNat] at ho33; rw [← Ny356.out] at ho33)); have n0_ := Aside0.mk (Kd.R_elder' (qR HO342.out) (Kd.R_base ho33) hb); have n1_ := Aside0.mk (Kd.R_elder' (qR HO348.out) (Kd.R_base ho33) hb); have n2_ := Aside0.mk (Kd.R_lower (Kd.R_new' (Kd.R_new' ho33 (Kd.R_lt (qR HO342.out))) (Kd.R_lt (qR HO348.out))) (below_size (qW HB.out))); have n3_ := Aside0.mk (blk_below (qB BK345.out) hb); have n4_ := Aside0.mk (blk_below (qB BK351.out) hb); have n5_ := Aside0.mk (below_step (qW HB.out) hb); clear HO342 HO348 BK345 BK351 HB; have HO342 := n0_; have HO348 := n1_; have HO358 := n2_; have BK345 := n3_; have BK351 := n4_; have HB := n5_; clear n0_ n1_ n2_ n3_ n4_ n5_ hb ho33) | ((with_reducible refine gate_dst (N := 64) rfl ?_); (try (refine gate_guard (by rfl) ?_; dsimp only)); refine Kd.R_lit (Kd.int .i64) _ 3 ?hg (N := 64) ?hd (xs := ([0] : List Int)) (inner := [.int .i64 0]) (ok := fun _ => True) (okp := fun _ => True) ?hr ?hp (fun _ hk => hk) trivial (Below.refl _ _) (Nat.le_refl _) (by simp) ?_; (case hd => rfl); (case hg => rfl); (case hr => first | (go_simp; done) | (go_simp; rfl)); (case hp => exact (Reps.one (show Kd.M (Kd.int .i64) _ _ _ 0 [.int .i64 0] from rfl) (Reps.none _ _))); intro v360 w34 ho35 hb hg_ hnew_; clear hg_ hnew_; (first | rw [← Ny359.out] at ho35 | (simp only [Int.reduceToNat] at ho35; rw [← Ny359.out] at ho35)); have n0_ := Aside0.mk (Kd.R_elder' (qR HO342.out) (Kd.R_base ho35) hb); have n1_ := Aside0.mk (Kd.R_elder' (qR HO348.out) (Kd.R_base ho35) hb); have n2_ := Aside0.mk (Kd.R_elder' (qR HO358.out) (Kd.R_base ho35) hb); have n3_ := Aside0.mk (Kd.R_lower (Kd.R_new' (Kd.R_new' (Kd.R_new' ho35 (Kd.R_lt (qR HO342.out))) (Kd.R_lt (qR HO348.out))) (Kd.R_lt (qR HO358.out))) (below_size (qW HB.out))); have n4_ := Aside0.mk (blk_below (qB BK345.out) hb); have n5_ := Aside0.mk (blk_below (qB BK351.out) hb); have n6_ := Aside0.mk (below_step (qW HB.out) hb); clear HO342 HO348 HO358 BK345 BK351 HB; have HO342 := n0_; have HO348 := n1_; have HO358 := n2_; have HO361 := n3_; have BK345 := n4_; have BK351 := n5_; have HB := n6_; clear n0_ n1_ n2_ n3_ n4_ n5_ n6_ hb ho35))
    go_loopg [15, 16, 65] kj3 (fun kq v15 v16 v65 w' => ∃ (x15_2 : List Int) (x16_2 : List Int) (x65_2 : Int), v65 = .int .i64 x65_2 ∧ Aside0 (standbylaw55_CurveQueues.l0 kq l0 l1 a2 t352 t353 t354 x15_2 x16_2 x65_2 = some r) ∧ Aside0 (kq ≤ kj3) ∧ Aside0 (Kd.R (Kd.int .i64) 3 w' w.heap.size (fun k_ => some k_ ≠ (v16 : Value).ownBlock ∧ some k_ ≠ ((.slice Ao20 t340.length co20) : Value).ownBlock ∧ some k_ ≠ ((.slice Ao24 t346.length co24) : Value).ownBlock) v15 x15_2) ∧ Aside0 (Kd.R (Kd.int .i64) 3 w' w.heap.size (fun k_ => some k_ ≠ (v15 : Value).ownBlock ∧ some k_ ≠ ((.slice Ao20 t340.length co20) : Value).ownBlock ∧ some k_ ≠ ((.slice Ao24 t346.length co24) : Value).ownBlock) v16 x16_2) ∧ Aside0 (Kd.R (Kd.int .i64) 3 w' w.heap.size (fun k_ => some k_ ≠ (v15 : Value).ownBlock ∧ some k_ ≠ (v16 : Value).ownBlock ∧ some k_ ≠ ((.slice Ao24 t346.length co24) : Value).ownBlock) (.slice Ao20 t340.length co20) t340) ∧ Aside0 (Kd.R (Kd.int .i64) 3 w' w.heap.size (fun k_ => some k_ ≠ (v15 : Value).ownBlock ∧ some k_ ≠ (v16 : Value).ownBlock ∧ some k_ ≠ ((.slice Ao20 t340.length co20) : Value).ownBlock) (.slice Ao24 t346.length co24) t346) ∧ Aside0 (w'.heap[gb345]? = some (.cells #[(.slice Ao20 t340.length co20), .int .i64 t343] 24 (0, 0))) ∧ Aside0 (w'.heap[gb351]? = some (.cells #[(.slice Ao24 t346.length co24), .int .i64 t349] 24 (0, 0))) ∧ Aside0 (Below w.heap.size w w'))
    case atStart => exact ⟨(y356), (y359), (0), (by first | rfl | (simp; done) | (simp [*]; done)), H', ⟨Nat.le_refl _⟩, ⟨by exact qR (Kd.R_mono HO358.out (fun _ hk => ⟨hk.2, ⟨hk.1.1.2, hk.1.2⟩⟩))⟩, ⟨by exact qR (Kd.R_mono HO361.out (fun _ hk => ⟨hk.2, ⟨hk.1.1.2, hk.1.2⟩⟩))⟩, ⟨by exact qR (Kd.R_mono HO342.out (fun _ hk => ⟨hk.1.2, ⟨hk.2, hk.1.1.2⟩⟩))⟩, ⟨by exact qR (Kd.R_mono HO348.out (fun _ hk => ⟨hk.1.2, ⟨hk.2, hk.1.1.2⟩⟩))⟩, ⟨by exact qB BK345.out⟩, ⟨by exact qB BK351.out⟩, ⟨by repeat (first | (with_reducible first | exact HB.out | apply below_alloc | apply pw_below_drewN | apply below_drew1 | refine below_set ?_ GE345.out | refine below_set ?_ GE351.out) | exact HB.out)⟩⟩
    case round =>
     clear H'
     try clear c1
     try clear c2
     try clear p2
     try clear c6
     try clear c7
     try clear c8
     try clear c11
     try clear c12
     try clear c13
     try clear c13b0
     try clear c13b1
     try clear c14
     try clear c14b0
     try clear c14b1
     try clear c17
     try clear c17b0
     try clear c17b1
     try clear c24
     try clear c25
     try clear c26
     try clear c28
     try clear hcz21_0
     try clear hcz21_1
     try clear hcz26_0
     try clear hcz26_1
     try clear hcz27_0
     try clear hcz27_1
     try clear hcz29_0
     try clear hcz29_1
     try clear hcz30_0
     try clear hcz30_1
     try clear hfz21_0
     try clear hfz21_1
     try clear hfz26_0
     try clear hfz26_1
     try clear hfz27_0
     try clear hfz27_1
     try clear hfz29_0
     try clear hfz29_1
     try clear hfz30_0
     try clear hfz30_1
     try clear p2
     obtain ⟨x15_2, x16_2, x65_2, rfl, HA, HK2, HO_15, HO_16, HO_346000, HO_352000, BK345, BK351, HB⟩ := hrel
     cases gk with
     | zero => exact absurd HA.out (by simp [standbylaw55_CurveQueues.l0])
     | succ k2 =>
      have H := HA.out
      clear HA
      simp only [standbylaw55_CurveQueues.l0] at H
      by_cases c36 : x65_2 < 100
      case neg =>
       rw [if_neg c36] at H
       have c36b0 : decide (x65_2 < 100) = false := decide_eq_false c36
       clear c36
       have H' := Aside0.mk H
       clear H
       obtain ⟨Ao77, co77, eo77⟩ := Kd.R_slice HO_15.out
       subst eo77
       go_wp2
       go_loopg [109] k2 (fun kq v109 w' => ∃ (x109_3 : Int), v109 = .int .i64 x109_3 ∧ Aside0 (standbylaw55_CurveQueues.l1 kq t352 t353 t354 x15_2 x16_2 (x15_2.length : Int) x109_3 = some r) ∧ Aside0 (kq ≤ k2) ∧ Aside0 (Kd.R (Kd.int .i64) 3 w' w.heap.size (fun k_ => some k_ ≠ (u16 : Value).ownBlock ∧ some k_ ≠ ((.slice Ao20 t340.length co20) : Value).ownBlock ∧ some k_ ≠ ((.slice Ao24 t346.length co24) : Value).ownBlock) (.slice Ao77 x15_2.length co77) x15_2) ∧ Aside0 (Kd.R (Kd.int .i64) 3 w' w.heap.size (fun k_ => some k_ ≠ ((.slice Ao77 x15_2.length co77) : Value).ownBlock ∧ some k_ ≠ ((.slice Ao20 t340.length co20) : Value).ownBlock ∧ some k_ ≠ ((.slice Ao24 t346.length co24) : Value).ownBlock) u16 x16_2) ∧ Aside0 (Kd.R (Kd.int .i64) 3 w' w.heap.size (fun k_ => some k_ ≠ ((.slice Ao77 x15_2.length co77) : Value).ownBlock ∧ some k_ ≠ (u16 : Value).ownBlock ∧ some k_ ≠ ((.slice Ao24 t346.length co24) : Value).ownBlock) (.slice Ao20 t340.length co20) t340) ∧ Aside0 (Kd.R (Kd.int .i64) 3 w' w.heap.size (fun k_ => some k_ ≠ ((.slice Ao77 x15_2.length co77) : Value).ownBlock ∧ some k_ ≠ (u16 : Value).ownBlock ∧ some k_ ≠ ((.slice Ao20 t340.length co20) : Value).ownBlock) (.slice Ao24 t346.length co24) t346) ∧ Aside0 (w'.heap[gb345]? = some (.cells #[(.slice Ao20 t340.length co20), .int .i64 t343] 24 (0, 0))) ∧ Aside0 (w'.heap[gb351]? = some (.cells #[(.slice Ao24 t346.length co24), .int .i64 t349] 24 (0, 0))) ∧ Aside0 (Below w.heap.size w w'))
       case atStart => exact ⟨(0), (by first | rfl | (simp; done) | (simp [*]; done)), H', ⟨Nat.le_refl _⟩, ⟨by exact qR HO_15.out⟩, ⟨by exact qR HO_16.out⟩, ⟨by exact qR HO_346000.out⟩, ⟨by exact qR HO_352000.out⟩, ⟨by exact qB BK345.out⟩, ⟨by exact qB BK351.out⟩, ⟨by repeat (first | (with_reducible first | exact HB.out | apply below_alloc | apply pw_below_drewN | apply below_drew1 | refine below_set ?_ GE345.out | refine below_set ?_ GE351.out) | exact HB.out)⟩⟩
       case round =>
        clear H'
        try clear p2
        try clear c3
        try clear p3
        try clear q3
        try clear hx3
        try clear c5
        try clear c6
        try clear p6
        try clear c36
        try clear c36b0
        try clear p37
        try clear q37
        try clear hx37
        try clear p38
        try clear q38
        try clear hx38
        try clear c59
        try clear c60
        try clear c61
        try clear c62
        try clear c64
        try clear p64
        try clear hx378_0
        try clear hx385_0
        try clear p378
        try clear p385
        try clear q378
        try clear q385
        obtain ⟨x109_3, rfl, HA, HK3, HO_15, HO_16, HO_346000, HO_352000, BK345, BK351, HB⟩ := hrel
        cases gk with
        | zero => exact absurd HA.out (by simp [standbylaw55_CurveQueues.l1])
        | succ k3 =>
         have H := HA.out
         clear HA
         simp only [standbylaw55_CurveQueues.l1] at H
         by_cases c78 : x109_3 < (x15_2.length : Int)
         case neg =>
          rw [if_neg c78] at H
          have c78b0 : decide (x109_3 < (x15_2.length : Int)) = false := decide_eq_false c78
          clear c78
          replace H := Option.bind_eq_some_iff.mp H
          obtain ⟨t396, A940, H⟩ := H
          replace H : (some t396) = some r := H
          have A94 := Aside0.mk A940
          clear A940
          obtain rfl := Option.some.inj H
          go_wp2_with (first | ((with_reducible refine gate_callee (f := 11) rfl ?_); refine goesL_ (some 147) rfl rfl Try.func11 (by kernel_rfl) rfl #[] rfl (by (try simp only [List.map_toArray, List.map_cons, List.map_nil]); first | done | rfl | (simp only [List.length_drop, List.length_take]; rfl)) ?_; (with_reducible refine (standbylaw55_awake.calls k3  t396 _ A94.out).mono ?_); rintro e w95 ⟨rfl, hb⟩; refine ⟨_, rfl, ?_⟩; have n0_ := Aside0.mk (Kd.R_below (qR HO_15.out) hb); have n1_ := Aside0.mk (Kd.R_below (qR HO_16.out) hb); have n2_ := Aside0.mk (Kd.R_below (qR HO_346000.out) hb); have n3_ := Aside0.mk (Kd.R_below (qR HO_352000.out) hb); have n4_ := Aside0.mk (blk_below (qB BK345.out) hb); have n5_ := Aside0.mk (blk_below (qB BK351.out) hb); have n6_ := Aside0.mk (below_step (qW HB.out) hb); clear HO_15 HO_16 HO_346000 HO_352000 BK345 BK351 HB; have HO_15 := n0_; have HO_16 := n1_; have HO_346000 := n2_; have HO_352000 := n3_; have BK345 := n4_; have BK351 := n5_; have HB := n6_; clear n0_ n1_ n2_ n3_ n4_ n5_ n6_; (try clear hb); (try clear hb2); (try clear hk); (try clear hi)))
          go_ret
          exact ⟨by first | rfl | (simp [errW_none, errW_some] <;> rfl) | (simp [*, errW_none, errW_some] <;> rfl), by repeat (first | (with_reducible first | exact HB.out | apply below_alloc | apply pw_below_drewN | apply below_drew1 | refine below_set ?_ GE345.out | refine below_set ?_ GE351.out) | exact HB.out)⟩
         rw [if_pos c78] at H
         have c78b0 : decide (x109_3 < (x15_2.length : Int)) = true := decide_eq_true c78
         clear c78
         by_cases c79 : 0 ≤ x109_3
         case neg =>
          rw [if_neg c79] at H
          exact absurd H (by simp)
         rw [if_pos c79] at H
         have c79b0 : decide (0 ≤ x109_3) = true := decide_eq_true c79
         clear c79
         by_cases c80 : x109_3 < (x15_2.length : Int)
         case neg =>
          rw [if_neg c80] at H
          exact absurd H (by simp)
         rw [if_pos c80] at H
         have c80b0 : decide (x109_3 < (x15_2.length : Int)) = true := decide_eq_true c80
         clear c80
         by_cases c81 : x109_3 < (x16_2.length : Int)
         case neg =>
          rw [if_neg c81] at H
          exact absurd H (by simp)
         rw [if_pos c81] at H
         have c81b0 : decide (x109_3 < (x16_2.length : Int)) = true := decide_eq_true c81
         clear c81
         by_cases c82 : (wrap64 ((rd x15_2 x109_3) - (rd x16_2 x109_3))) > t354
         ·rw [if_pos c82] at H
          exact absurd H (by simp)
         ·rw [if_neg c82] at H
          have c82b0 : decide (t354 < (wrap64 ((rd x15_2 x109_3) - (rd x16_2 x109_3)))) = false := decide_eq_false c82
          clear c82
          have HC83 := Aside0.mk H
          clear H
          try go_wp2
          have n0_ := Aside0.mk (Kd.R_drew HO_15.out)
          have n1_ := Aside0.mk (Kd.R_drew HO_16.out)
          have n2_ := Aside0.mk (Kd.R_drew HO_346000.out)
          have n3_ := Aside0.mk (Kd.R_drew HO_352000.out)
          have n4_ := Aside0.mk (blk_drew BK345.out)
          have n5_ := Aside0.mk (blk_drew BK351.out)
          have n6_ := Aside0.mk (below_drew1 HB.out)
          clear HO_15 HO_16 HO_346000 HO_352000 BK345 BK351 HB
          have HO_15 := n0_
          have HO_16 := n1_
          have HO_346000 := n2_
          have HO_352000 := n3_
          have BK345 := n4_
          have BK351 := n5_
          have HB := n6_
          clear n0_ n1_ n2_ n3_ n4_ n5_ n6_
          have p392 : 0 ≤ (x109_3 : Int) := of_decide_eq_true (by first | (with_reducible assumption) | assumption)
          have q392 : x109_3 < (x15_2.length : Int) := of_decide_eq_true (by first | (with_reducible assumption) | assumption)
          obtain ⟨ad392, e392, hx392_0⟩ := Kd.at_int (Kd.R_reads' HO_15.out).2.2 x109_3 p392 q392
          cases e392
          replace p392 := eq_true p392
          replace q392 := eq_true q392
          obtain ⟨Ao85, co85, eo85⟩ := Kd.R_slice HO_16.out
          (first | subst eo85 | (injection eo85 with f1_ f2_ f3_; have f4_ := f1_.symm; have f5_ := f3_.symm; clear f1_ f2_ f3_; subst f4_; subst f5_))
          have p393 : 0 ≤ (x109_3 : Int) := of_decide_eq_true (by first | (with_reducible assumption) | assumption)
          have q393 : x109_3 < (x16_2.length : Int) := of_decide_eq_true (by first | (with_reducible assumption) | assumption)
          obtain ⟨ad393, e393, hx393_0⟩ := Kd.at_int (Kd.R_reads' HO_16.out).2.2 x109_3 p393 q393
          cases e393
          replace p393 := eq_true p393
          replace q393 := eq_true q393
          refine start_ (n := 11) (S := fun w' => w'.cell? (ad392.add (x109_3).toNat) = some (.int .i64 (rd x15_2 x109_3)) ∧ w'.cell? (ad393.add (x109_3).toNat) = some (.int .i64 (rd x16_2 x109_3))) (ds := []) #[false, false, false, false, false, false, false, false, false, false, false] (by kernel_rfl) rfl rfl ⟨hx392_0, hx393_0⟩ (fun hHeld => ?_); refine with_tabW standbylaw55_CurveQueues.tab26 standbylaw55_CurveQueues.bits26 (fun HT_ HW_ => ?_)
          generalize wr.drew = w84 at HO_15 HO_16 HO_346000 HO_352000 BK345 BK351 HB hx392_0 hx393_0 hHeld ⊢
          refine pS (i := 0) (N := some 112) #[true, false, false, false, false, false, false, false, false, false, false] rfl rfl HT_.out ?_
          refine pS (i := 1) (N := some 113) #[true, true, false, false, false, false, false, false, false, false, false] rfl rfl HT_.out ?_
          refine pS (i := 2) (N := some 114) #[true, true, true, false, false, false, false, false, false, false, false] rfl rfl HT_.out ?_
          refine pS (i := 4) (N := some 116) #[true, true, true, false, true, false, false, false, false, false, false] rfl rfl HT_.out ?_
          refine pS (i := 5) (N := some 117) #[true, true, true, false, true, true, false, false, false, false, false] rfl rfl HT_.out ?_
          refine pS (i := 6) (N := some 118) #[true, true, true, false, true, true, true, false, false, false, false] rfl rfl HT_.out ?_
          refine pS (i := 9) (N := some 121) #[true, true, true, false, true, true, true, false, false, true, false] rfl rfl HT_.out ?_
          refine take_ (i := 3) (N := some 115) (v := ?_) (a' := ?_) #[true, true, true, true, true, true, true, false, false, true, false] rfl rfl (take_ofW HT_.out HW_.out (by kernel_rfl)) (fun _ _ _ h => h) (Or.inl ⟨by rfl, ?_⟩) hHeld ?_ ?_; rotate_left
          ·rintro w' ⟨s0, s1⟩
           go_simp
           with_reducible rfl
          rotate_left
          ·simp only [Act.put, List.setIfInBounds_toArray, List.set_cons_zero, List.set_cons_succ, i64_w, i32_w]
           rfl
          refine take_ (i := 7) (N := some 119) (v := ?_) (a' := ?_) #[true, true, true, true, true, true, true, true, false, true, false] rfl rfl (take_ofW HT_.out HW_.out (by kernel_rfl)) (fun _ _ _ h => h) (Or.inl ⟨by rfl, ?_⟩) hHeld ?_ ?_; rotate_left
          ·rintro w' ⟨s0, s1⟩
           go_simp
           with_reducible rfl
          rotate_left
          ·simp only [Act.put, List.setIfInBounds_toArray, List.set_cons_zero, List.set_cons_succ, i64_w, i32_w]
           rfl
          refine pS (i := 8) (N := some 120) #[true, true, true, true, true, true, true, true, true, true, false] rfl rfl HT_.out ?_
          refine pS (i := 10) (N := some 122) #[true, true, true, true, true, true, true, true, true, true, true] rfl rfl HT_.out ?_
          refine done_ (done_of HT_.out (by kernel_rfl)) ?_
          go_upto_region 28 with (fail)
          go_cut [145] (fun v145 wc => ∃ (kq : Nat) (x145_82 : Bool), v145 = .bool x145_82 ∧ Aside0 (standbylaw55_CurveQueues.j4 kq t352 t353 t354 x15_2 x16_2 (x15_2.length : Int) x109_3 x145_82 = some r) ∧ Aside0 (kq ≤ k3) ∧ Aside0 (Kd.R (Kd.int .i64) 3 wc w.heap.size (fun k_ => some k_ ≠ ((.slice (some ad393) x16_2.length co85) : Value).ownBlock ∧ some k_ ≠ ((.slice Ao20 t340.length co20) : Value).ownBlock ∧ some k_ ≠ ((.slice Ao24 t346.length co24) : Value).ownBlock) (.slice (some ad392) x15_2.length co77) x15_2) ∧ Aside0 (Kd.R (Kd.int .i64) 3 wc w.heap.size (fun k_ => some k_ ≠ ((.slice (some ad392) x15_2.length co77) : Value).ownBlock ∧ some k_ ≠ ((.slice Ao20 t340.length co20) : Value).ownBlock ∧ some k_ ≠ ((.slice Ao24 t346.length co24) : Value).ownBlock) (.slice (some ad393) x16_2.length co85) x16_2) ∧ Aside0 (Kd.R (Kd.int .i64) 3 wc w.heap.size (fun k_ => some k_ ≠ ((.slice (some ad392) x15_2.length co77) : Value).ownBlock ∧ some k_ ≠ ((.slice (some ad393) x16_2.length co85) : Value).ownBlock ∧ some k_ ≠ ((.slice Ao24 t346.length co24) : Value).ownBlock) (.slice Ao20 t340.length co20) t340) ∧ Aside0 (Kd.R (Kd.int .i64) 3 wc w.heap.size (fun k_ => some k_ ≠ ((.slice (some ad392) x15_2.length co77) : Value).ownBlock ∧ some k_ ≠ ((.slice (some ad393) x16_2.length co85) : Value).ownBlock ∧ some k_ ≠ ((.slice Ao20 t340.length co20) : Value).ownBlock) (.slice Ao24 t346.length co24) t346) ∧ Aside0 (wc.heap[gb345]? = some (.cells #[(.slice Ao20 t340.length co20), .int .i64 t343] 24 (0, 0))) ∧ Aside0 (wc.heap[gb351]? = some (.cells #[(.slice Ao24 t346.length co24), .int .i64 t349] 24 (0, 0))) ∧ Aside0 (Below w.heap.size w wc))
          case first =>
           have H := HC83.out
           clear HC83
           by_cases c86 : t353 = 0
           case neg =>
            rw [if_neg c86] at H
            have c86b0 : (t353 == 0) = false := beq_eq_false_iff_ne.mpr c86
            have c86b1 : (t353 != 0) = true := bne_iff_ne.mpr c86
            (first | rw [c86b0] | (simp only [i64_w, i32_w]; rw [c86b0]) | skip)
            have H' := Aside0.mk H
            clear H
            try go_wp2
            have n0_ := Aside0.mk (Kd.R_drew HO_15.out)
            have n1_ := Aside0.mk (Kd.R_drew HO_16.out)
            have n2_ := Aside0.mk (Kd.R_drew HO_346000.out)
            have n3_ := Aside0.mk (Kd.R_drew HO_352000.out)
            have n4_ := Aside0.mk (blk_drew BK345.out)
            have n5_ := Aside0.mk (blk_drew BK351.out)
            have n6_ := Aside0.mk (below_drew1 HB.out)
            clear HO_15 HO_16 HO_346000 HO_352000 BK345 BK351 HB
            have HO_15 := n0_
            have HO_16 := n1_
            have HO_346000 := n2_
            have HO_352000 := n3_
            have BK345 := n4_
            have BK351 := n5_
            have HB := n6_
            clear n0_ n1_ n2_ n3_ n4_ n5_ n6_
            refine start_ (n := 23) (S := fun w' => True) (ds := []) #[false, false, false, false, false, false, false, false, false, false, false, false, false, false, false, false, false, false, false, false, false, false, false] (by kernel_rfl) rfl rfl trivial (fun hHeld => ?_); refine with_tabW standbylaw55_CurveQueues.tab28 standbylaw55_CurveQueues.bits28 (fun HT_ HW_ => ?_)
            generalize w84.drew = w92 at HO_15 HO_16 HO_346000 HO_352000 BK345 BK351 HB hHeld ⊢
            refine pS (i := 0) (N := some 123) #[true, false, false, false, false, false, false, false, false, false, false, false, false, false, false, false, false, false, false, false, false, false, false] rfl rfl HT_.out ?_
            refine pS (i := 1) (N := some 124) #[true, true, false, false, false, false, false, false, false, false, false, false, false, false, false, false, false, false, false, false, false, false, false] rfl rfl HT_.out ?_
            refine pS (i := 2) (N := some 125) #[true, true, true, false, false, false, false, false, false, false, false, false, false, false, false, false, false, false, false, false, false, false, false] rfl rfl HT_.out ?_
            refine pU (i := 3) (N := some 126) #[true, true, true, true, false, false, false, false, false, false, false, false, false, false, false, false, false, false, false, false, false, false, false] rfl rfl HT_.out ?_
            refine pU (i := 4) (N := some 127) #[true, true, true, true, true, false, false, false, false, false, false, false, false, false, false, false, false, false, false, false, false, false, false] rfl rfl HT_.out ?_
            refine pU (i := 5) (N := some 128) #[true, true, true, true, true, true, false, false, false, false, false, false, false, false, false, false, false, false, false, false, false, false, false] rfl rfl HT_.out ?_
            refine pU (i := 6) (N := some 129) #[true, true, true, true, true, true, true, false, false, false, false, false, false, false, false, false, false, false, false, false, false, false, false] rfl rfl HT_.out ?_
            refine pU (i := 7) (N := some 130) #[true, true, true, true, true, true, true, true, false, false, false, false, false, false, false, false, false, false, false, false, false, false, false] rfl rfl HT_.out ?_
            refine pU (i := 8) (N := some 131) #[true, true, true, true, true, true, true, true, true, false, false, false, false, false, false, false, false, false, false, false, false, false, false] rfl rfl HT_.out ?_
            refine pS (i := 9) (N := some 132) #[true, true, true, true, true, true, true, true, true, true, false, false, false, false, false, false, false, false, false, false, false, false, false] rfl rfl HT_.out ?_
            refine pS (i := 10) (N := some 133) #[true, true, true, true, true, true, true, true, true, true, true, false, false, false, false, false, false, false, false, false, false, false, false] rfl rfl HT_.out ?_
            refine pU (i := 11) (N := some 134) #[true, true, true, true, true, true, true, true, true, true, true, true, false, false, false, false, false, false, false, false, false, false, false] rfl rfl HT_.out ?_
            refine pU (i := 12) (N := some 135) #[true, true, true, true, true, true, true, true, true, true, true, true, true, false, false, false, false, false, false, false, false, false, false] rfl rfl HT_.out ?_
            refine pU (i := 13) (N := some 136) #[true, true, true, true, true, true, true, true, true, true, true, true, true, true, false, false, false, false, false, false, false, false, false] rfl rfl HT_.out ?_
            refine pU (i := 14) (N := some 137) #[true, true, true, true, true, true, true, true, true, true, true, true, true, true, true, false, false, false, false, false, false, false, false] rfl rfl HT_.out ?_
            refine pU (i := 15) (N := some 138) #[true, true, true, true, true, true, true, true, true, true, true, true, true, true, true, true, false, false, false, false, false, false, false] rfl rfl HT_.out ?_
            refine pU (i := 16) (N := some 139) #[true, true, true, true, true, true, true, true, true, true, true, true, true, true, true, true, true, false, false, false, false, false, false] rfl rfl HT_.out ?_
            refine pU (i := 17) (N := some 140) #[true, true, true, true, true, true, true, true, true, true, true, true, true, true, true, true, true, true, false, false, false, false, false] rfl rfl HT_.out ?_
            refine pU (i := 18) (N := some 141) #[true, true, true, true, true, true, true, true, true, true, true, true, true, true, true, true, true, true, true, false, false, false, false] rfl rfl HT_.out ?_
            refine pU (i := 19) (N := some 142) #[true, true, true, true, true, true, true, true, true, true, true, true, true, true, true, true, true, true, true, true, false, false, false] rfl rfl HT_.out ?_
            refine pU (i := 20) (N := some 143) #[true, true, true, true, true, true, true, true, true, true, true, true, true, true, true, true, true, true, true, true, true, false, false] rfl rfl HT_.out ?_
            refine pU (i := 21) (N := some 144) #[true, true, true, true, true, true, true, true, true, true, true, true, true, true, true, true, true, true, true, true, true, true, false] rfl rfl HT_.out ?_
            refine pS (i := 22) (N := some 145) #[true, true, true, true, true, true, true, true, true, true, true, true, true, true, true, true, true, true, true, true, true, true, true] rfl rfl HT_.out ?_
            refine done_ (done_of HT_.out (by kernel_rfl)) ?_
            try go_wp2
            go_meet
            case rel => exact ⟨_, (false), (by first | rfl | (simp; done) | (simp [*]; done)), H', ⟨by have := HJ3.out; have := HK2.out; have := HK3.out; first | omega | exact Nat.le_refl _⟩, ⟨by exact qR HO_15.out⟩, ⟨by exact qR HO_16.out⟩, ⟨by exact qR HO_346000.out⟩, ⟨by exact qR HO_352000.out⟩, ⟨by exact qB BK345.out⟩, ⟨by exact qB BK351.out⟩, ⟨by repeat (first | (with_reducible first | exact HB.out | apply below_alloc | apply pw_below_drewN | apply below_drew1 | refine below_set ?_ GE345.out | refine below_set ?_ GE351.out) | exact HB.out)⟩⟩
           rw [if_pos c86] at H
           have c86b0 : (t353 == 0) = true := beq_iff_eq.mpr c86
           have c86b1 : (t353 != 0) = false := bne_eq_false_iff_eq.mpr c86
           clear c86
           (first | rw [c86b0] | (simp only [i64_w, i32_w]; rw [c86b0]) | skip)
           by_cases c87 : (wrap64 (x109_3 + t352)) < (x16_2.length : Int)
           case neg =>
            rw [if_neg c87] at H
            have c87b0 : decide ((wrap64 (x109_3 + t352)) < (x16_2.length : Int)) = false := decide_eq_false c87
            clear c87
            have H' := Aside0.mk H
            clear H
            try go_wp2
            have n0_ := Aside0.mk (Kd.R_drew HO_15.out)
            have n1_ := Aside0.mk (Kd.R_drew HO_16.out)
            have n2_ := Aside0.mk (Kd.R_drew HO_346000.out)
            have n3_ := Aside0.mk (Kd.R_drew HO_352000.out)
            have n4_ := Aside0.mk (blk_drew BK345.out)
            have n5_ := Aside0.mk (blk_drew BK351.out)
            have n6_ := Aside0.mk (below_drew1 HB.out)
            clear HO_15 HO_16 HO_346000 HO_352000 BK345 BK351 HB
            have HO_15 := n0_
            have HO_16 := n1_
            have HO_346000 := n2_
            have HO_352000 := n3_
            have BK345 := n4_
            have BK351 := n5_
            have HB := n6_
            clear n0_ n1_ n2_ n3_ n4_ n5_ n6_
            refine start_ (n := 23) (S := fun w' => True) (ds := []) #[false, false, false, false, false, false, false, false, false, false, false, false, false, false, false, false, false, false, false, false, false, false, false] (by kernel_rfl) rfl rfl trivial (fun hHeld => ?_); refine with_tabW standbylaw55_CurveQueues.tab28 standbylaw55_CurveQueues.bits28 (fun HT_ HW_ => ?_)
            generalize w84.drew = w91 at HO_15 HO_16 HO_346000 HO_352000 BK345 BK351 HB hHeld ⊢
            refine pS (i := 0) (N := some 123) #[true, false, false, false, false, false, false, false, false, false, false, false, false, false, false, false, false, false, false, false, false, false, false] rfl rfl HT_.out ?_
            refine pS (i := 1) (N := some 124) #[true, true, false, false, false, false, false, false, false, false, false, false, false, false, false, false, false, false, false, false, false, false, false] rfl rfl HT_.out ?_
            refine pS (i := 2) (N := some 125) #[true, true, true, false, false, false, false, false, false, false, false, false, false, false, false, false, false, false, false, false, false, false, false] rfl rfl HT_.out ?_
            refine pS (i := 3) (N := some 126) #[true, true, true, true, false, false, false, false, false, false, false, false, false, false, false, false, false, false, false, false, false, false, false] rfl rfl HT_.out ?_
            refine pS (i := 4) (N := some 127) #[true, true, true, true, true, false, false, false, false, false, false, false, false, false, false, false, false, false, false, false, false, false, false] rfl rfl HT_.out ?_
            refine pS (i := 5) (N := some 128) #[true, true, true, true, true, true, false, false, false, false, false, false, false, false, false, false, false, false, false, false, false, false, false] rfl rfl HT_.out ?_
            refine pS (i := 6) (N := some 129) #[true, true, true, true, true, true, true, false, false, false, false, false, false, false, false, false, false, false, false, false, false, false, false] rfl rfl HT_.out ?_
            refine pS (i := 7) (N := some 130) #[true, true, true, true, true, true, true, true, false, false, false, false, false, false, false, false, false, false, false, false, false, false, false] rfl rfl HT_.out ?_
            refine pS (i := 8) (N := some 131) #[true, true, true, true, true, true, true, true, true, false, false, false, false, false, false, false, false, false, false, false, false, false, false] rfl rfl HT_.out ?_
            refine pS (i := 9) (N := some 132) #[true, true, true, true, true, true, true, true, true, true, false, false, false, false, false, false, false, false, false, false, false, false, false] rfl rfl HT_.out ?_
            refine pS (i := 10) (N := some 133) #[true, true, true, true, true, true, true, true, true, true, true, false, false, false, false, false, false, false, false, false, false, false, false] rfl rfl HT_.out ?_
            refine pU (i := 11) (N := some 134) #[true, true, true, true, true, true, true, true, true, true, true, true, false, false, false, false, false, false, false, false, false, false, false] rfl rfl HT_.out ?_
            refine pU (i := 12) (N := some 135) #[true, true, true, true, true, true, true, true, true, true, true, true, true, false, false, false, false, false, false, false, false, false, false] rfl rfl HT_.out ?_
            refine pU (i := 13) (N := some 136) #[true, true, true, true, true, true, true, true, true, true, true, true, true, true, false, false, false, false, false, false, false, false, false] rfl rfl HT_.out ?_
            refine pU (i := 14) (N := some 137) #[true, true, true, true, true, true, true, true, true, true, true, true, true, true, true, false, false, false, false, false, false, false, false] rfl rfl HT_.out ?_
            refine pU (i := 15) (N := some 138) #[true, true, true, true, true, true, true, true, true, true, true, true, true, true, true, true, false, false, false, false, false, false, false] rfl rfl HT_.out ?_
            refine pU (i := 16) (N := some 139) #[true, true, true, true, true, true, true, true, true, true, true, true, true, true, true, true, true, false, false, false, false, false, false] rfl rfl HT_.out ?_
            refine pU (i := 17) (N := some 140) #[true, true, true, true, true, true, true, true, true, true, true, true, true, true, true, true, true, true, false, false, false, false, false] rfl rfl HT_.out ?_
            refine pU (i := 18) (N := some 141) #[true, true, true, true, true, true, true, true, true, true, true, true, true, true, true, true, true, true, true, false, false, false, false] rfl rfl HT_.out ?_
            refine pU (i := 19) (N := some 142) #[true, true, true, true, true, true, true, true, true, true, true, true, true, true, true, true, true, true, true, true, false, false, false] rfl rfl HT_.out ?_
            refine pU (i := 20) (N := some 143) #[true, true, true, true, true, true, true, true, true, true, true, true, true, true, true, true, true, true, true, true, true, false, false] rfl rfl HT_.out ?_
            refine pU (i := 21) (N := some 144) #[true, true, true, true, true, true, true, true, true, true, true, true, true, true, true, true, true, true, true, true, true, true, false] rfl rfl HT_.out ?_
            refine pS (i := 22) (N := some 145) #[true, true, true, true, true, true, true, true, true, true, true, true, true, true, true, true, true, true, true, true, true, true, true] rfl rfl HT_.out ?_
            refine done_ (done_of HT_.out (by kernel_rfl)) ?_
            try go_wp2
            go_meet
            case rel => exact ⟨_, (false), (by first | rfl | (simp; done) | (simp [*]; done)), H', ⟨by have := HJ3.out; have := HK2.out; have := HK3.out; first | omega | exact Nat.le_refl _⟩, ⟨by exact qR HO_15.out⟩, ⟨by exact qR HO_16.out⟩, ⟨by exact qR HO_346000.out⟩, ⟨by exact qR HO_352000.out⟩, ⟨by exact qB BK345.out⟩, ⟨by exact qB BK351.out⟩, ⟨by repeat (first | (with_reducible first | exact HB.out | apply below_alloc | apply pw_below_drewN | apply below_drew1 | refine below_set ?_ GE345.out | refine below_set ?_ GE351.out) | exact HB.out)⟩⟩
           rw [if_pos c87] at H
           have c87b0 : decide ((wrap64 (x109_3 + t352)) < (x16_2.length : Int)) = true := decide_eq_true c87
           clear c87
           obtain ⟨ji88, hji88⟩ : ∃ j_ : Int, (wrap64 (x109_3 + t352)) = j_ := ⟨_, rfl⟩
           replace H : (if 0 ≤ (ji88) then (standbylaw55_CurveQueues.j4 k3 t352 t353 t354 x15_2 x16_2 (x15_2.length : Int) x109_3 (decide ((rd x16_2 (ji88)) < (rd x15_2 x109_3)))) else (none)) = some r := by first | (rw [hji88] at H; exact H) | (simp only [hji88] at H ⊢; exact H)
           (try rw [hji88] at c87b0)
           have hji88w : (IntKind.i64.wrap (x109_3 + t352)) = ji88 := (i64_w _).trans hji88
           by_cases c89 : 0 ≤ (ji88)
           case neg =>
            rw [if_neg c89] at H
            exact absurd H (by simp)
           rw [if_pos c89] at H
           have c89b0 : decide (0 ≤ (ji88)) = true := decide_eq_true c89
           clear c89
           have H' := Aside0.mk H
           clear H
           try go_wp2
           have n0_ := Aside0.mk (Kd.R_drew HO_15.out)
           have n1_ := Aside0.mk (Kd.R_drew HO_16.out)
           have n2_ := Aside0.mk (Kd.R_drew HO_346000.out)
           have n3_ := Aside0.mk (Kd.R_drew HO_352000.out)
           have n4_ := Aside0.mk (blk_drew BK345.out)
           have n5_ := Aside0.mk (blk_drew BK351.out)
           have n6_ := Aside0.mk (below_drew1 HB.out)
           clear HO_15 HO_16 HO_346000 HO_352000 BK345 BK351 HB
           have HO_15 := n0_
           have HO_16 := n1_
           have HO_346000 := n2_
           have HO_352000 := n3_
           have BK345 := n4_
           have BK351 := n5_
           have HB := n6_
           clear n0_ n1_ n2_ n3_ n4_ n5_ n6_
           have p394 : 0 ≤ ((ji88) : Int) := of_decide_eq_true (by first | (with_reducible assumption) | assumption)
           have q394 : (ji88) < (x16_2.length : Int) := of_decide_eq_true (by first | (with_reducible assumption) | assumption)
           obtain ⟨ad394, e394, hx394_0⟩ := Kd.at_int (Kd.R_reads' HO_16.out).2.2 (ji88) p394 q394
           obtain rfl : ad393 = ad394 := (by injection e394)
           replace p394 := eq_true p394
           replace q394 := eq_true q394
           have p395 : 0 ≤ (x109_3 : Int) := of_decide_eq_true (by first | (with_reducible assumption) | assumption)
           have q395 : x109_3 < (x15_2.length : Int) := of_decide_eq_true (by first | (with_reducible assumption) | assumption)
           obtain ⟨ad395, e395, hx395_0⟩ := Kd.at_int (Kd.R_reads' HO_15.out).2.2 x109_3 p395 q395
           obtain rfl : ad392 = ad395 := (by injection e395)
           replace p395 := eq_true p395
           replace q395 := eq_true q395
           refine start_ (n := 23) (S := fun w' => w'.cell? (ad393.add ((ji88)).toNat) = some (.int .i64 (rd x16_2 (ji88))) ∧ w'.cell? (ad392.add (x109_3).toNat) = some (.int .i64 (rd x15_2 x109_3))) (ds := []) #[false, false, false, false, false, false, false, false, false, false, false, false, false, false, false, false, false, false, false, false, false, false, false] (by kernel_rfl) rfl rfl ⟨hx394_0, hx395_0⟩ (fun hHeld => ?_); refine with_tabW standbylaw55_CurveQueues.tab28 standbylaw55_CurveQueues.bits28 (fun HT_ HW_ => ?_)
           generalize w84.drew = w90 at HO_15 HO_16 HO_346000 HO_352000 BK345 BK351 HB hx394_0 hx395_0 hHeld ⊢
           refine pS (i := 0) (N := some 123) #[true, false, false, false, false, false, false, false, false, false, false, false, false, false, false, false, false, false, false, false, false, false, false] rfl rfl HT_.out ?_
           refine pS (i := 1) (N := some 124) #[true, true, false, false, false, false, false, false, false, false, false, false, false, false, false, false, false, false, false, false, false, false, false] rfl rfl HT_.out ?_
           refine pS (i := 2) (N := some 125) #[true, true, true, false, false, false, false, false, false, false, false, false, false, false, false, false, false, false, false, false, false, false, false] rfl rfl HT_.out ?_
           refine pS (i := 3) (N := some 126) #[true, true, true, true, false, false, false, false, false, false, false, false, false, false, false, false, false, false, false, false, false, false, false] rfl rfl HT_.out ?_
           refine pS (i := 4) (N := some 127) #[true, true, true, true, true, false, false, false, false, false, false, false, false, false, false, false, false, false, false, false, false, false, false] rfl rfl HT_.out ?_
           refine pS (i := 5) (N := some 128) #[true, true, true, true, true, true, false, false, false, false, false, false, false, false, false, false, false, false, false, false, false, false, false] rfl rfl HT_.out ?_
           refine pS (i := 6) (N := some 129) #[true, true, true, true, true, true, true, false, false, false, false, false, false, false, false, false, false, false, false, false, false, false, false] rfl rfl HT_.out ?_
           refine pS (i := 7) (N := some 130) #[true, true, true, true, true, true, true, true, false, false, false, false, false, false, false, false, false, false, false, false, false, false, false] rfl rfl HT_.out ?_
           refine pS (i := 8) (N := some 131) #[true, true, true, true, true, true, true, true, true, false, false, false, false, false, false, false, false, false, false, false, false, false, false] rfl rfl HT_.out ?_
           refine pS (i := 9) (N := some 132) #[true, true, true, true, true, true, true, true, true, true, false, false, false, false, false, false, false, false, false, false, false, false, false] rfl rfl HT_.out ?_
           refine pS (i := 10) (N := some 133) #[true, true, true, true, true, true, true, true, true, true, true, false, false, false, false, false, false, false, false, false, false, false, false] rfl rfl HT_.out ?_
           refine pS (i := 11) (N := some 134) #[true, true, true, true, true, true, true, true, true, true, true, true, false, false, false, false, false, false, false, false, false, false, false] rfl rfl HT_.out ?_
           refine pS (i := 12) (N := some 135) #[true, true, true, true, true, true, true, true, true, true, true, true, true, false, false, false, false, false, false, false, false, false, false] rfl rfl HT_.out ?_
           refine pS (i := 13) (N := some 136) #[true, true, true, true, true, true, true, true, true, true, true, true, true, true, false, false, false, false, false, false, false, false, false] rfl rfl HT_.out ?_
           refine pS (i := 14) (N := some 137) #[true, true, true, true, true, true, true, true, true, true, true, true, true, true, true, false, false, false, false, false, false, false, false] rfl rfl HT_.out ?_
           refine pS (i := 15) (N := some 138) #[true, true, true, true, true, true, true, true, true, true, true, true, true, true, true, true, false, false, false, false, false, false, false] rfl rfl HT_.out ?_
           refine pS (i := 17) (N := some 140) #[true, true, true, true, true, true, true, true, true, true, true, true, true, true, true, true, false, true, false, false, false, false, false] rfl rfl HT_.out ?_
           refine pS (i := 18) (N := some 141) #[true, true, true, true, true, true, true, true, true, true, true, true, true, true, true, true, false, true, true, false, false, false, false] rfl rfl HT_.out ?_
           refine pS (i := 19) (N := some 142) #[true, true, true, true, true, true, true, true, true, true, true, true, true, true, true, true, false, true, true, true, false, false, false] rfl rfl HT_.out ?_
           refine take_ (i := 16) (N := some 139) (v := ?_) (a' := ?_) #[true, true, true, true, true, true, true, true, true, true, true, true, true, true, true, true, true, true, true, true, false, false, false] rfl rfl (take_ofW HT_.out HW_.out (by kernel_rfl)) (fun _ _ _ h => h) (Or.inl ⟨by rfl, ?_⟩) hHeld ?_ ?_; rotate_left
           ·rintro w' ⟨s0, s1⟩
            go_simp
            with_reducible rfl
           rotate_left
           ·simp only [Act.put, List.setIfInBounds_toArray, List.set_cons_zero, List.set_cons_succ, i64_w, i32_w]
            rfl
           refine take_ (i := 20) (N := some 143) (v := ?_) (a' := ?_) #[true, true, true, true, true, true, true, true, true, true, true, true, true, true, true, true, true, true, true, true, true, false, false] rfl rfl (take_ofW HT_.out HW_.out (by kernel_rfl)) (fun _ _ _ h => h) (Or.inl ⟨by rfl, ?_⟩) hHeld ?_ ?_; rotate_left
           ·rintro w' ⟨s0, s1⟩
            go_simp
            with_reducible rfl
           rotate_left
           ·simp only [Act.put, List.setIfInBounds_toArray, List.set_cons_zero, List.set_cons_succ, i64_w, i32_w]
            rfl
           refine pS (i := 21) (N := some 144) #[true, true, true, true, true, true, true, true, true, true, true, true, true, true, true, true, true, true, true, true, true, true, false] rfl rfl HT_.out ?_
           refine pS (i := 22) (N := some 145) #[true, true, true, true, true, true, true, true, true, true, true, true, true, true, true, true, true, true, true, true, true, true, true] rfl rfl HT_.out ?_
           refine done_ (done_of HT_.out (by kernel_rfl)) ?_
           try go_wp2
           go_meet
           case rel => exact ⟨_, (decide ((rd x16_2 (ji88)) < (rd x15_2 x109_3))), (by first | rfl | (simp; done) | (simp only [← hji88] <;> (first | rfl | simp)) | (simp [*]; done)), H', ⟨by have := HJ3.out; have := HK2.out; have := HK3.out; first | omega | exact Nat.le_refl _⟩, ⟨by exact qR HO_15.out⟩, ⟨by exact qR HO_16.out⟩, ⟨by exact qR HO_346000.out⟩, ⟨by exact qR HO_352000.out⟩, ⟨by exact qB BK345.out⟩, ⟨by exact qB BK351.out⟩, ⟨by repeat (first | (with_reducible first | exact HB.out | apply below_alloc | apply pw_below_drewN | apply below_drew1 | refine below_set ?_ GE345.out | refine below_set ?_ GE351.out) | exact HB.out)⟩⟩
          case rest =>
           clear HC83
           try clear p2
           try clear p3
           try clear q3
           try clear hx3
           try clear p6
           try clear c8
           try clear p39
           try clear q39
           try clear hx39
           try clear p64
           try clear c86
           try clear c86b0
           try clear c86b1
           try clear c87
           try clear c87b0
           try clear c89
           try clear c89b0
           try clear hx394_0
           try clear hx395_0
           try clear p394
           try clear p395
           try clear q394
           try clear q395
           obtain ⟨kq, x145_82, rfl, HA, HJ82, HO_15, HO_16, HO_346000, HO_352000, BK345, BK351, HB⟩ := hcut
           cases kq with
           | zero => exact absurd HA.out (by simp [standbylaw55_CurveQueues.j4])
           | succ kj82 =>
            have H := HA.out
            clear HA
            simp only [standbylaw55_CurveQueues.j4] at H
            by_cases c93 : x145_82 = true
            ·subst c93
             have H1 : (none) = some r := by rw [if_pos rfl] at H; exact H
             clear H
             have H := H1
             clear H1
             exact absurd H (by simp)
            ·replace c93 := Bool.eq_false_iff.mpr c93
             subst c93
             have H1 : (standbylaw55_CurveQueues.l1 kj82 t352 t353 t354 x15_2 x16_2 (x15_2.length : Int) (wrap64 (x109_3 + 1))) = some r := by rw [if_neg (show ¬ (false = true) by decide)] at H; exact H
             clear H
             have H := H1
             clear H1
             have H' := Aside0.mk H
             clear H
             go_wp2
             go_roundg kj82
             case measure => have := HJ3.out; have := HK2.out; have := HK3.out; have := HJ82.out; omega
             case rel => exact ⟨(wrap64 (x109_3 + 1)), (by first | rfl | (simp; done) | (simp [*]; done)), H', ⟨by have := HJ3.out; have := HK2.out; have := HK3.out; have := HJ82.out; omega⟩, ⟨by exact qR HO_15.out⟩, ⟨by exact qR HO_16.out⟩, ⟨by exact qR HO_346000.out⟩, ⟨by exact qR HO_352000.out⟩, ⟨by exact qB BK345.out⟩, ⟨by exact qB BK351.out⟩, ⟨by repeat (first | (with_reducible first | exact HB.out | apply below_alloc | apply pw_below_drewN | apply below_drew1 | refine below_set ?_ GE345.out | refine below_set ?_ GE351.out) | exact HB.out)⟩⟩
      rw [if_pos c36] at H
      have c36b0 : decide (x65_2 < 100) = true := decide_eq_true c36
      clear c36
      have HC37 := Aside0.mk H
      clear H
      go_upto_if 72 with (fail)
      go_cut [18] (fun v18 wc => ∃ (kq : Nat) (x18_36 : Int), v18 = .int .i64 x18_36 ∧ Aside0 (standbylaw55_CurveQueues.j2 kq l0 l1 a2 t352 t353 t354 x15_2 x16_2 x65_2 x18_36 a2 x65_2 = some r) ∧ Aside0 (kq ≤ k2) ∧ Aside0 (Kd.R (Kd.int .i64) 3 wc w.heap.size (fun k_ => some k_ ≠ (u16 : Value).ownBlock ∧ some k_ ≠ ((.slice Ao20 t340.length co20) : Value).ownBlock ∧ some k_ ≠ ((.slice Ao24 t346.length co24) : Value).ownBlock) u15 x15_2) ∧ Aside0 (Kd.R (Kd.int .i64) 3 wc w.heap.size (fun k_ => some k_ ≠ (u15 : Value).ownBlock ∧ some k_ ≠ ((.slice Ao20 t340.length co20) : Value).ownBlock ∧ some k_ ≠ ((.slice Ao24 t346.length co24) : Value).ownBlock) u16 x16_2) ∧ Aside0 (Kd.R (Kd.int .i64) 3 wc w.heap.size (fun k_ => some k_ ≠ (u15 : Value).ownBlock ∧ some k_ ≠ (u16 : Value).ownBlock ∧ some k_ ≠ ((.slice Ao24 t346.length co24) : Value).ownBlock) (.slice Ao20 t340.length co20) t340) ∧ Aside0 (Kd.R (Kd.int .i64) 3 wc w.heap.size (fun k_ => some k_ ≠ (u15 : Value).ownBlock ∧ some k_ ≠ (u16 : Value).ownBlock ∧ some k_ ≠ ((.slice Ao20 t340.length co20) : Value).ownBlock) (.slice Ao24 t346.length co24) t346) ∧ Aside0 (wc.heap[gb345]? = some (.cells #[(.slice Ao20 t340.length co20), .int .i64 t343] 24 (0, 0))) ∧ Aside0 (wc.heap[gb351]? = some (.cells #[(.slice Ao24 t346.length co24), .int .i64 t349] 24 (0, 0))) ∧ Aside0 (Below w.heap.size w wc))
      case first =>
       have H := HC37.out
       clear HC37
       by_cases c38 : x65_2 < (l0.length : Int)
       case neg =>
        rw [if_neg c38] at H
        have c38b0 : decide (x65_2 < (l0.length : Int)) = false := decide_eq_false c38
        clear c38
        (first | rw [c38b0] | (simp only [i64_w, i32_w]; rw [c38b0]) | skip)
        have H' := Aside0.mk H
        clear H
        go_wp2
        go_meet
        case rel => exact ⟨_, (0), (by first | rfl | (simp; done) | (simp [*]; done)), H', ⟨by have := HJ3.out; have := HK2.out; first | omega | exact Nat.le_refl _⟩, ⟨by exact qR HO_15.out⟩, ⟨by exact qR HO_16.out⟩, ⟨by exact qR HO_346000.out⟩, ⟨by exact qR HO_352000.out⟩, ⟨by exact qB BK345.out⟩, ⟨by exact qB BK351.out⟩, ⟨by repeat (first | (with_reducible first | exact HB.out | apply below_alloc | apply pw_below_drewN | apply below_drew1 | refine below_set ?_ GE345.out | refine below_set ?_ GE351.out) | exact HB.out)⟩⟩
       rw [if_pos c38] at H
       have c38b0 : decide (x65_2 < (l0.length : Int)) = true := decide_eq_true c38
       clear c38
       (first | rw [c38b0] | (simp only [i64_w, i32_w]; rw [c38b0]) | skip)
       by_cases c39 : 0 ≤ x65_2
       case neg =>
        rw [if_neg c39] at H
        exact absurd H (by simp)
       rw [if_pos c39] at H
       have c39b0 : decide (0 ≤ x65_2) = true := decide_eq_true c39
       clear c39
       have H' := Aside0.mk H
       clear H
       have p362 : 0 ≤ (x65_2 : Int) := of_decide_eq_true (by first | (with_reducible assumption) | assumption)
       have q362 : x65_2 < (l0.length : Int) := of_decide_eq_true (by first | (with_reducible assumption) | assumption)
       obtain ⟨ad362, e362, hx362_0⟩ := Kd.at_int HR0.out x65_2 p362 q362
       cases e362
       replace hx362_0 := (HB.out.cell (World.block_lt_of_cell? w _ hx362_0)).trans hx362_0
       replace p362 := eq_true p362
       replace q362 := eq_true q362
       go_wp2
       go_meet
       case rel => exact ⟨_, (rd l0 x65_2), (by first | rfl | (simp; done) | (simp [*]; done)), H', ⟨by have := HJ3.out; have := HK2.out; first | omega | exact Nat.le_refl _⟩, ⟨by exact qR HO_15.out⟩, ⟨by exact qR HO_16.out⟩, ⟨by exact qR HO_346000.out⟩, ⟨by exact qR HO_352000.out⟩, ⟨by exact qB BK345.out⟩, ⟨by exact qB BK351.out⟩, ⟨by repeat (first | (with_reducible first | exact HB.out | apply below_alloc | apply pw_below_drewN | apply below_drew1 | refine below_set ?_ GE345.out | refine below_set ?_ GE351.out) | exact HB.out)⟩⟩
      case rest =>
       clear HC37
       try clear c1
       try clear c2
       try clear p2
       try clear c3
       try clear p3
       try clear q3
       try clear hx3
       try clear c6
       try clear c7
       try clear c8
       try clear c11
       try clear c12
       try clear c13
       try clear c13b0
       try clear c13b1
       try clear c14
       try clear c14b0
       try clear c14b1
       try clear c17
       try clear c17b0
       try clear c17b1
       try clear c24
       try clear c25
       try clear c26
       try clear c28
       try clear c36
       try clear c36b0
       try clear p36
       try clear q36
       try clear hx36
       try clear c38
       try clear c38b0
       try clear c39
       try clear c39b0
       try clear hcz21_0
       try clear hcz21_1
       try clear hcz26_0
       try clear hcz26_1
       try clear hcz27_0
       try clear hcz27_1
       try clear hcz29_0
       try clear hcz29_1
       try clear hcz30_0
       try clear hcz30_1
       try clear hfz21_0
       try clear hfz21_1
       try clear hfz26_0
       try clear hfz26_1
       try clear hfz27_0
       try clear hfz27_1
       try clear hfz29_0
       try clear hfz29_1
       try clear hfz30_0
       try clear hfz30_1
       try clear hx362_0
       try clear p2
       try clear p362
       try clear q362
       obtain ⟨kq, x18_36, rfl, HA, HJ36, HO_15, HO_16, HO_346000, HO_352000, BK345, BK351, HB⟩ := hcut
       cases kq with
       | zero => exact absurd HA.out (by simp [standbylaw55_CurveQueues.j2])
       | succ kj36 =>
        have H := HA.out
        clear HA
        simp only [standbylaw55_CurveQueues.j2] at H
        by_cases c40 : x65_2 < (l1.length : Int)
        case neg =>
         rw [if_neg c40] at H
         have c40b0 : decide (x65_2 < (l1.length : Int)) = false := decide_eq_false c40
         clear c40
         by_cases c59 : 0 ≤ x65_2
         case neg =>
          rw [if_neg c59] at H
          exact absurd H (by simp)
         rw [if_pos c59] at H
         have c59b0 : decide (0 ≤ x65_2) = true := decide_eq_true c59
         clear c59
         by_cases c60 : x65_2 < (x15_2.length : Int)
         case neg =>
          rw [if_neg c60] at H
          exact absurd H (by simp)
         rw [if_pos c60] at H
         have c60b0 : decide (x65_2 < (x15_2.length : Int)) = true := decide_eq_true c60
         clear c60
         obtain ⟨y379, hy379⟩ : ∃ y_ : List Int, y_ = (([wrap64 ((rd x15_2 x65_2) + x18_36)] : List Int)) := ⟨_, rfl⟩
         replace H : (if x15_2.length + y379.length < 17592186044416 then (if x65_2 < (x16_2.length : Int) then ((some (([mn (wrap64 ((rd x15_2 x65_2) + x18_36)) (wrap64 ((rd x16_2 x65_2) + a2))] : List Int) : List Int)).bind fun y386 => (if x16_2.length + y386.length < 17592186044416 then (standbylaw55_CurveQueues.l0 kj36 l0 l1 a2 t352 t353 t354 (x15_2 ++ y379) (x16_2 ++ y386) (wrap64 (x65_2 + 1))) else (none))) else (none)) else (none)) = some r := by first | (rw [hy379]; with_reducible exact H) | (have H2_ := (Option.bind_some _ _).symm.trans H; rw [hy379]; with_reducible exact H2_) | (have H2_ := (Option.bind_some _ _).symm.trans H; with_reducible exact H2_) | with_reducible exact H | (rw [hy379]; exact H) | exact H
         have Ny379 := Aside0.mk hy379
         clear hy379
         by_cases c61 : x15_2.length + y379.length < 17592186044416
         case neg =>
          rw [if_neg c61] at H
          exact absurd H (by simp)
         rw [if_pos c61] at H
         have LMc61 := Aside0.mk c61
         clear c61
         obtain ⟨y382, hy382⟩ : ∃ y_ : List Int, y_ = (x15_2 ++ y379) := ⟨_, rfl⟩
         replace H : (if x65_2 < (x16_2.length : Int) then ((some (([mn (wrap64 ((rd x15_2 x65_2) + x18_36)) (wrap64 ((rd x16_2 x65_2) + a2))] : List Int) : List Int)).bind fun y386 => (if x16_2.length + y386.length < 17592186044416 then (standbylaw55_CurveQueues.l0 kj36 l0 l1 a2 t352 t353 t354 y382 (x16_2 ++ y386) (wrap64 (x65_2 + 1))) else (none))) else (none)) = some r := by first | (rw [hy382]; with_reducible exact H) | (have H2_ := (Option.bind_some _ _).symm.trans H; rw [hy382]; with_reducible exact H2_) | (have H2_ := (Option.bind_some _ _).symm.trans H; with_reducible exact H2_) | with_reducible exact H | (rw [hy382]; exact H) | exact H
         have Ny382 := Aside0.mk hy382
         clear hy382
         by_cases c62 : x65_2 < (x16_2.length : Int)
         case neg =>
          rw [if_neg c62] at H
          exact absurd H (by simp)
         rw [if_pos c62] at H
         have c62b0 : decide (x65_2 < (x16_2.length : Int)) = true := decide_eq_true c62
         clear c62
         obtain ⟨ji63, hji63⟩ : ∃ j_ : Int, (mn (wrap64 ((rd x15_2 x65_2) + x18_36)) (wrap64 ((rd x16_2 x65_2) + a2))) = j_ := ⟨_, rfl⟩
         replace H : ((some (([ji63] : List Int) : List Int)).bind fun y386 => (if x16_2.length + y386.length < 17592186044416 then (standbylaw55_CurveQueues.l0 kj36 l0 l1 a2 t352 t353 t354 y382 (x16_2 ++ y386) (wrap64 (x65_2 + 1))) else (none))) = some r := by first | (rw [hji63] at H; exact H) | (simp only [hji63] at H ⊢; exact H)
         have hji63_ : (if (wrap64 ((rd x16_2 x65_2) + a2)) < (wrap64 ((rd x15_2 x65_2) + x18_36)) then (wrap64 ((rd x16_2 x65_2) + a2)) else (wrap64 ((rd x15_2 x65_2) + x18_36))) = ji63 := hji63
         obtain ⟨y386, hy386⟩ : ∃ y_ : List Int, y_ = (([ji63] : List Int)) := ⟨_, rfl⟩
         replace H : (if x16_2.length + y386.length < 17592186044416 then (standbylaw55_CurveQueues.l0 kj36 l0 l1 a2 t352 t353 t354 y382 (x16_2 ++ y386) (wrap64 (x65_2 + 1))) else (none)) = some r := by first | (rw [hy386]; with_reducible exact H) | (have H2_ := (Option.bind_some _ _).symm.trans H; rw [hy386]; with_reducible exact H2_) | (have H2_ := (Option.bind_some _ _).symm.trans H; with_reducible exact H2_) | with_reducible exact H | (rw [hy386]; exact H) | exact H
         have Ny386 := Aside0.mk hy386
         clear hy386
         by_cases c64 : x16_2.length + y386.length < 17592186044416
         case neg =>
          rw [if_neg c64] at H
          exact absurd H (by simp)
         rw [if_pos c64] at H
         have LMc64 := Aside0.mk c64
         clear c64
         obtain ⟨y389, hy389⟩ : ∃ y_ : List Int, y_ = (x16_2 ++ y386) := ⟨_, rfl⟩
         replace H : (standbylaw55_CurveQueues.l0 kj36 l0 l1 a2 t352 t353 t354 y382 y389 (wrap64 (x65_2 + 1))) = some r := by first | (rw [hy389]; with_reducible exact H) | (have H2_ := (Option.bind_some _ _).symm.trans H; rw [hy389]; with_reducible exact H2_) | (have H2_ := (Option.bind_some _ _).symm.trans H; with_reducible exact H2_) | with_reducible exact H | (rw [hy389]; exact H) | exact H
         have Ny389 := Aside0.mk hy389
         clear hy389
         have H' := Aside0.mk H
         clear H
         obtain ⟨Ao65, co65, eo65⟩ := Kd.R_slice HO_15.out
         subst eo65
         have p378 : 0 ≤ (x65_2 : Int) := of_decide_eq_true (by first | (with_reducible assumption) | assumption)
         have q378 : x65_2 < (x15_2.length : Int) := of_decide_eq_true (by first | (with_reducible assumption) | assumption)
         obtain ⟨ad378, e378, hx378_0⟩ := Kd.at_int (Kd.R_reads' HO_15.out).2.2 x65_2 p378 q378
         cases e378
         replace p378 := eq_true p378
         replace q378 := eq_true q378
         obtain ⟨Ao66, co66, eo66⟩ := Kd.R_slice HO_16.out
         subst eo66
         try go_wp2
         have n0_ := Aside0.mk (Kd.R_drew HO_15.out)
         have n1_ := Aside0.mk (Kd.R_drew HO_16.out)
         have n2_ := Aside0.mk (Kd.R_drew HO_346000.out)
         have n3_ := Aside0.mk (Kd.R_drew HO_352000.out)
         have n4_ := Aside0.mk (blk_drew BK345.out)
         have n5_ := Aside0.mk (blk_drew BK351.out)
         have n6_ := Aside0.mk (below_drew1 HB.out)
         clear HO_15 HO_16 HO_346000 HO_352000 BK345 BK351 HB
         have HO_15 := n0_
         have HO_16 := n1_
         have HO_346000 := n2_
         have HO_352000 := n3_
         have BK345 := n4_
         have BK351 := n5_
         have HB := n6_
         clear n0_ n1_ n2_ n3_ n4_ n5_ n6_
         have p385 : 0 ≤ (x65_2 : Int) := of_decide_eq_true (by first | (with_reducible assumption) | assumption)
         have q385 : x65_2 < (x16_2.length : Int) := of_decide_eq_true (by first | (with_reducible assumption) | assumption)
         obtain ⟨ad385, e385, hx385_0⟩ := Kd.at_int (Kd.R_reads' HO_16.out).2.2 x65_2 p385 q385
         cases e385
         replace p385 := eq_true p385
         replace q385 := eq_true q385
         refine start_ (n := 17) (S := fun w' => w'.cell? (ad385.add (x65_2).toNat) = some (.int .i64 (rd x16_2 x65_2))) (ds := [14]) #[false, false, false, false, false, false, false, false, false, false, false, false, false, false, false, false, false] (by kernel_rfl) rfl rfl (hx385_0) (fun hHeld => ?_); refine with_tabW standbylaw55_CurveQueues.tab21 standbylaw55_CurveQueues.bits21 (fun HT_ HW_ => ?_)
         generalize wc.drew = w67 at HO_15 HO_16 HO_346000 HO_352000 BK345 BK351 HB hx385_0 hHeld ⊢
         refine pS (i := 0) (N := some 91) #[true, false, false, false, false, false, false, false, false, false, false, false, false, false, false, false, false] rfl rfl HT_.out ?_
         refine pS (i := 1) (N := some 92) #[true, true, false, false, false, false, false, false, false, false, false, false, false, false, false, false, false] rfl rfl HT_.out ?_
         refine pS (i := 4) (N := some 95) #[true, true, false, false, true, false, false, false, false, false, false, false, false, false, false, false, false] rfl rfl HT_.out ?_
         refine pS (i := 5) (N := some 96) #[true, true, false, false, true, true, false, false, false, false, false, false, false, false, false, false, false] rfl rfl HT_.out ?_
         refine pS (i := 6) (N := some 97) #[true, true, false, false, true, true, true, false, false, false, false, false, false, false, false, false, false] rfl rfl HT_.out ?_
         refine pS (i := 7) (N := some 98) #[true, true, false, false, true, true, true, true, false, false, false, false, false, false, false, false, false] rfl rfl HT_.out ?_
         refine pS (i := 8) (N := some 99) #[true, true, false, false, true, true, true, true, true, false, false, false, false, false, false, false, false] rfl rfl HT_.out ?_
         refine pS (i := 10) (N := some 101) #[true, true, false, false, true, true, true, true, true, false, true, false, false, false, false, false, false] rfl rfl HT_.out ?_
         refine take_ (i := 9) (N := some 100) (v := ?_) (a' := ?_) #[true, true, false, false, true, true, true, true, true, true, true, false, false, false, false, false, false] rfl rfl (take_ofW HT_.out HW_.out (by kernel_rfl)) (fun _ _ _ h => h) (Or.inl ⟨by rfl, ?_⟩) hHeld ?_ ?_; rotate_left
         ·intro w' s0
          go_simp
          with_reducible rfl
         rotate_left
         ·simp only [Act.put, List.setIfInBounds_toArray, List.set_cons_zero, List.set_cons_succ, i64_w, i32_w]
          rfl
         refine pS (i := 11) (N := some 102) #[true, true, false, false, true, true, true, true, true, true, true, true, false, false, false, false, false] rfl rfl HT_.out ?_
         refine pS (i := 12) (N := some 103) #[true, true, false, false, true, true, true, true, true, true, true, true, true, false, false, false, false] rfl rfl HT_.out ?_
         refine join_ (σ := Value × Value × Value) 3 #[true, true, true, true, true, true, true, true, true, true, true, true, true, true, false, false, false] (fun s_ => [(93, s_.1), (94, s_.2.1), (104, s_.2.2)]) (fun s_ w' => (w'.cell? (ad385.add (x65_2).toNat) = some (.int .i64 (rd x16_2 x65_2))) ∧ (Kd.R (Kd.int .i64) 3 w' w.heap.size (fun k_ => some k_ ≠ (s_.2.1 : Value).ownBlock ∧ some k_ ≠ (s_.2.2 : Value).ownBlock ∧ some k_ ≠ (.slice (some ad385) x16_2.length co66 : Value).ownBlock ∧ some k_ ≠ (.slice Ao20 t340.length co20 : Value).ownBlock ∧ some k_ ≠ (.slice Ao24 t346.length co24 : Value).ownBlock) s_.1 y379) ∧ (Kd.R (Kd.int .i64) 3 w' w.heap.size (fun k_ => some k_ ≠ (s_.1 : Value).ownBlock ∧ some k_ ≠ (s_.2.2 : Value).ownBlock ∧ some k_ ≠ (.slice (some ad385) x16_2.length co66 : Value).ownBlock ∧ some k_ ≠ (.slice Ao20 t340.length co20 : Value).ownBlock ∧ some k_ ≠ (.slice Ao24 t346.length co24 : Value).ownBlock) s_.2.1 y382) ∧ (Kd.R (Kd.int .i64) 3 w' w.heap.size (fun k_ => some k_ ≠ (s_.1 : Value).ownBlock ∧ some k_ ≠ (s_.2.1 : Value).ownBlock ∧ some k_ ≠ (.slice (some ad385) x16_2.length co66 : Value).ownBlock ∧ some k_ ≠ (.slice Ao20 t340.length co20 : Value).ownBlock ∧ some k_ ≠ (.slice Ao24 t346.length co24 : Value).ownBlock) s_.2.2 y386) ∧ (Kd.R (Kd.int .i64) 3 w' w.heap.size (fun k_ => some k_ ≠ (s_.1 : Value).ownBlock ∧ some k_ ≠ (s_.2.1 : Value).ownBlock ∧ some k_ ≠ (s_.2.2 : Value).ownBlock ∧ some k_ ≠ (.slice Ao20 t340.length co20 : Value).ownBlock ∧ some k_ ≠ (.slice Ao24 t346.length co24 : Value).ownBlock) (.slice (some ad385) x16_2.length co66) x16_2) ∧ (Kd.R (Kd.int .i64) 3 w' w.heap.size (fun k_ => some k_ ≠ (s_.1 : Value).ownBlock ∧ some k_ ≠ (s_.2.1 : Value).ownBlock ∧ some k_ ≠ (s_.2.2 : Value).ownBlock ∧ some k_ ≠ (.slice (some ad385) x16_2.length co66 : Value).ownBlock ∧ some k_ ≠ (.slice Ao24 t346.length co24 : Value).ownBlock) (.slice Ao20 t340.length co20) t340) ∧ (Kd.R (Kd.int .i64) 3 w' w.heap.size (fun k_ => some k_ ≠ (s_.1 : Value).ownBlock ∧ some k_ ≠ (s_.2.1 : Value).ownBlock ∧ some k_ ≠ (s_.2.2 : Value).ownBlock ∧ some k_ ≠ (.slice (some ad385) x16_2.length co66 : Value).ownBlock ∧ some k_ ≠ (.slice Ao20 t340.length co20 : Value).ownBlock) (.slice Ao24 t346.length co24) t346) ∧ (w'.heap[gb345]? = some (.cells #[.slice Ao20 t340.length co20, .int .i64 t343] 24 (0, 0))) ∧ (w'.heap[gb351]? = some (.cells #[.slice Ao24 t346.length co24, .int .i64 t349] 24 (0, 0))) ∧ (Below w.heap.size w w')) ?_ ?_; rotate_left
         ·intro hCont
          refine two_ (i := 2) (j := 13) (Ni := some 93) (Nj := some 104) #[true, true, true, false, true, true, true, true, true, true, true, true, true, false, false, false, false] #[true, true, false, false, true, true, true, true, true, true, true, true, true, true, false, false, false] rfl rfl rfl rfl (two_of HT_.out (by kernel_rfl)) (by decide) (by decide) (fun K hK => ?_) (fun K hK => ?_)
          ·skip
           refine Kd.R_lit_step (Kd.int .i64) _ 3 ?hg (N := 93) ?hd (xs := ([wrap64 ((rd x15_2 x65_2) + x18_36)] : List Int)) (inner := [.int .i64 (wrap64 ((rd x15_2 x65_2) + x18_36))]) (ok := fun _ => True) (okp := fun _ => True) ?hr ?hp (fun _ hk => hk) trivial (Below.refl _ _) (Nat.le_refl _) (by simp) ?_; (case hd => rfl); (case hg => rfl); (case hr => first | (go_simp; done) | (go_simp; rfl)); (case hp => exact (Reps.one (show Kd.M (Kd.int .i64) _ _ _ (wrap64 ((rd x15_2 x65_2) + x18_36)) [.int .i64 (wrap64 ((rd x15_2 x65_2) + x18_36))] from rfl) (Reps.none _ _)))
           intro v380 w68 ho69 hb hg_ hnew_
           have HS0_ := (hb.cell (World.block_lt_of_cell? _ _ (hHeld))).trans (hHeld)
           clear hg_ hnew_
           (first | rw [← Ny379.out] at ho69 | (simp only [Int.reduceToNat] at ho69; rw [← Ny379.out] at ho69))
           have n0_ := Aside0.mk (Kd.R_elder' (qR HO_15.out) (Kd.R_base ho69) hb)
           have n1_ := Aside0.mk (Kd.R_elder' (qR HO_16.out) (Kd.R_base ho69) hb)
           have n2_ := Aside0.mk (Kd.R_elder' (qR HO_346000.out) (Kd.R_base ho69) hb)
           have n3_ := Aside0.mk (Kd.R_elder' (qR HO_352000.out) (Kd.R_base ho69) hb)
           have n4_ := Aside0.mk (Kd.R_lower (Kd.R_new' (Kd.R_new' (Kd.R_new' (Kd.R_new' ho69 (Kd.R_lt (qR HO_15.out))) (Kd.R_lt (qR HO_16.out))) (Kd.R_lt (qR HO_346000.out))) (Kd.R_lt (qR HO_352000.out))) (below_size (qW HB.out)))
           have n5_ := Aside0.mk (blk_below (qB BK345.out) hb)
           have n6_ := Aside0.mk (blk_below (qB BK351.out) hb)
           have n7_ := Aside0.mk (below_step (qW HB.out) hb)
           clear HO_15 HO_16 HO_346000 HO_352000 BK345 BK351 HB
           have HO_15 := n0_
           have HO_16 := n1_
           have HO_346000 := n2_
           have HO_352000 := n3_
           have HO381 := n4_
           have BK345 := n5_
           have BK351 := n6_
           have HB := n7_
           clear n0_ n1_ n2_ n3_ n4_ n5_ n6_ n7_ hb ho69
           obtain ⟨Ao71, co71, eo71⟩ := Kd.R_slice HO381.out
           (first | subst eo71 | (injection eo71 with f1_ f2_ f3_; have f4_ := f1_.symm; have f5_ := f3_.symm; clear f1_ f2_ f3_; subst f4_; subst f5_))
           refine hK.out _ _ (HS0_) (fun hHeld => ?_); clear hK K
           refine norm_ (a' := ?_) ?_ ?_; rotate_left
           ·show Act.put _ (some 93) _ = _
            simp only [Act.put, List.setIfInBounds_toArray, List.set_cons_zero, List.set_cons_succ, i64_w, i32_w]
            rfl
           refine two_ (i := 3) (j := 13) (Ni := some 94) (Nj := some 104) #[true, true, true, true, true, true, true, true, true, true, true, true, true, false, false, false, false] #[true, true, true, false, true, true, true, true, true, true, true, true, true, true, false, false, false] rfl rfl rfl rfl (two_of HT_.out (by kernel_rfl)) (by decide) (by decide) (fun K hK => ?_) (fun K hK => ?_)
           ·skip
            refine Kd.R_append_rows_step (Kd.int .i64) (w0 := w) w.heap.size (by rfl) (.tmp 91) (.tmp 93) 22 3 (.int .i64 0) 8 rfl Try.underlying22 info3 rfl (by decide) (by omega) (.slice (some ad378) x15_2.length co65) x15_2 y379 _ _ _ (fun k_ => some k_ ≠ (.slice (some ad385) x16_2.length co66 : Value).ownBlock ∧ some k_ ≠ (.slice Ao20 t340.length co20 : Value).ownBlock ∧ some k_ ≠ (.slice Ao24 t346.length co24 : Value).ownBlock ∧ some k_ ≠ (.slice Ao71 y379.length co71 : Value).ownBlock) (fun _ => False) rfl rfl ?aO ?aR (fun _ _ h => h) (fun _ h => h.elim) ?aF ?aB ?aS ?aL ?_
            (case aR => repeat (first | exact (Kd.R_reads' HO381.out).2.2 | (with_reducible refine Kd.C_alloc ?_ _) | (with_reducible refine Kd.C_drewN ?_ _) | (with_reducible refine Kd.C_drew ?_)))
            (case aB => exact (qW HB.out))
            (case aF => exact (fun k_ hk => ⟨Kd.fresh' (Kd.R_lt (qR HO_16.out)) k_ hk, Kd.fresh' (Kd.R_lt (qR HO_346000.out)) k_ hk, Kd.fresh' (Kd.R_lt (qR HO_352000.out)) k_ hk, Kd.fresh' (Kd.R_lt (qR HO381.out)) k_ hk⟩))
            (case aO => exact (qR (Kd.R_mono HO_15.out (fun _ hk => ⟨hk.1.1, ⟨hk.1.2.1, ⟨hk.1.2.2, hk.2⟩⟩⟩))))
            (case aS => exact (below_size (qW HB.out)))
            (case aL => have := LMc61.out; omega)
            intro v383 w70 ho hb hg hat
            (first | have HS0_ := cell_grown hg (hHeld) (fun e_ => ((HO_15.out.1 _ e_.symm).1.1) rfl) | have HS0_ := cell_grown hg (hHeld) (by first | exact (fun e_ => ((HO_15.out.1 _ e_.symm).1.1) rfl) | (rw [add_block]; exact (fun e_ => ((HO_15.out.1 _ e_.symm).1.1) rfl)) | (show some (Addr.add _ _).block ≠ _; rw [add_block]; exact (fun e_ => ((HO_15.out.1 _ e_.symm).1.1) rfl))) | have HS0_ := cell_grown hg (cell_unalloc (hHeld) (World.block_lt_of_cell? _ _ (hHeld))) (by first | exact (fun e_ => ((HO_15.out.1 _ e_.symm).1.1) rfl) | (rw [add_block]; exact (fun e_ => ((HO_15.out.1 _ e_.symm).1.1) rfl)) | (show some (Addr.add _ _).block ≠ _; rw [add_block]; exact (fun e_ => ((HO_15.out.1 _ e_.symm).1.1) rfl))))
            rw [← Ny382.out] at ho
            have n0_ := Aside0.mk (Kd.R_after (ok := (fun k_ => some k_ ≠ (.slice Ao20 t340.length co20 : Value).ownBlock ∧ some k_ ≠ (.slice Ao24 t346.length co24 : Value).ownBlock ∧ some k_ ≠ (.slice Ao71 y379.length co71 : Value).ownBlock)) (qR (Kd.R_mono HO_16.out (fun _ hk => ⟨⟨hk.1.2.1, ⟨hk.1.2.2, hk.2⟩⟩, hk.1.1⟩))) hg hat)
            have n1_ := Aside0.mk (Kd.R_after (ok := (fun k_ => some k_ ≠ (.slice (some ad385) x16_2.length co66 : Value).ownBlock ∧ some k_ ≠ (.slice Ao24 t346.length co24 : Value).ownBlock ∧ some k_ ≠ (.slice Ao71 y379.length co71 : Value).ownBlock)) (qR (Kd.R_mono HO_346000.out (fun _ hk => ⟨⟨hk.1.2.1, ⟨hk.1.2.2, hk.2⟩⟩, hk.1.1⟩))) hg hat)
            have n2_ := Aside0.mk (Kd.R_after (ok := (fun k_ => some k_ ≠ (.slice (some ad385) x16_2.length co66 : Value).ownBlock ∧ some k_ ≠ (.slice Ao20 t340.length co20 : Value).ownBlock ∧ some k_ ≠ (.slice Ao71 y379.length co71 : Value).ownBlock)) (qR (Kd.R_mono HO_352000.out (fun _ hk => ⟨⟨hk.1.2.1, ⟨hk.1.2.2, hk.2⟩⟩, hk.1.1⟩))) hg hat)
            have n3_ := Aside0.mk (blk_grown (qB BK345.out) hg (Kd.R_ne HO_15.out BK345.out (by decide)))
            have n4_ := Aside0.mk (blk_grown (qB BK351.out) hg (Kd.R_ne HO_15.out BK351.out (by decide)))
            have n5_ := Aside0.mk (Kd.R_after (ok := (fun k_ => some k_ ≠ (.slice (some ad385) x16_2.length co66 : Value).ownBlock ∧ some k_ ≠ (.slice Ao20 t340.length co20 : Value).ownBlock ∧ some k_ ≠ (.slice Ao24 t346.length co24 : Value).ownBlock)) (qR (Kd.R_mono HO381.out (fun _ hk => ⟨⟨hk.1.1.2, ⟨hk.1.2, hk.2⟩⟩, hk.1.1.1.2⟩))) hg hat)
            have n6_ := Aside0.mk (hb)
            have n7_ := Aside0.mk (ho)
            clear HO_16 HO_346000 HO_352000 BK345 BK351 HO381 HB HO_15
            have HO_16 := n0_
            have HO_346000 := n1_
            have HO_352000 := n2_
            have BK345 := n3_
            have BK351 := n4_
            have HO381 := n5_
            have HB := n6_
            have HO384 := n7_
            clear n0_ n1_ n2_ n3_ n4_ n5_ n6_ n7_ ho hb hg hat
            refine hK.out _ _ (HS0_) (fun hHeld => ?_); clear hK K
            refine norm_ (a' := ?_) ?_ ?_; rotate_left
            ·show Act.put _ (some 94) _ = _
             simp only [Act.put, List.setIfInBounds_toArray, List.set_cons_zero, List.set_cons_succ, i64_w, i32_w]
             rfl
            refine one_ (i := 13) (N := some 104) #[true, true, true, true, true, true, true, true, true, true, true, true, true, true, false, false, false] rfl rfl (one_of HT_.out (by kernel_rfl)) (by decide) (fun K hK => ?_)
            refine Kd.R_lit_step (Kd.int .i64) _ 3 ?hg (N := 104) ?hd (xs := ([ji63] : List Int)) (inner := [.int .i64 ji63]) (ok := fun _ => True) (okp := fun _ => True) ?hr ?hp (fun _ hk => hk) trivial (Below.refl _ _) (Nat.le_refl _) (by simp) ?_; (case hd => rfl); (case hg => rfl); (case hr => first | (go_simp; done) | (go_simp; rfl)); (case hp => exact (Reps.one (show Kd.M (Kd.int .i64) _ _ _ ji63 [.int .i64 ji63] from rfl) (Reps.none _ _)))
            intro v387 w72 ho73 hb hg_ hnew_
            have HS0_ := (hb.cell (World.block_lt_of_cell? _ _ (hHeld))).trans (hHeld)
            clear hg_ hnew_
            (first | rw [← Ny386.out] at ho73 | (simp only [Int.reduceToNat] at ho73; rw [← Ny386.out] at ho73))
            have n0_ := Aside0.mk (Kd.R_elder' (qR HO_16.out) (Kd.R_base ho73) hb)
            have n1_ := Aside0.mk (Kd.R_elder' (qR HO_346000.out) (Kd.R_base ho73) hb)
            have n2_ := Aside0.mk (Kd.R_elder' (qR HO_352000.out) (Kd.R_base ho73) hb)
            have n3_ := Aside0.mk (Kd.R_elder' (qR HO381.out) (Kd.R_base ho73) hb)
            have n4_ := Aside0.mk (Kd.R_elder' (qR HO384.out) (Kd.R_base ho73) hb)
            have n5_ := Aside0.mk (Kd.R_lower (Kd.R_new' (Kd.R_new' (Kd.R_new' (Kd.R_new' (Kd.R_new' ho73 (Kd.R_lt (qR HO_16.out))) (Kd.R_lt (qR HO_346000.out))) (Kd.R_lt (qR HO_352000.out))) (Kd.R_lt (qR HO381.out))) (Kd.R_lt (qR HO384.out))) (below_size (qW HB.out)))
            have n6_ := Aside0.mk (blk_below (qB BK345.out) hb)
            have n7_ := Aside0.mk (blk_below (qB BK351.out) hb)
            have n8_ := Aside0.mk (below_step (qW HB.out) hb)
            clear HO_16 HO_346000 HO_352000 HO381 HO384 BK345 BK351 HB
            have HO_16 := n0_
            have HO_346000 := n1_
            have HO_352000 := n2_
            have HO381 := n3_
            have HO384 := n4_
            have HO388 := n5_
            have BK345 := n6_
            have BK351 := n7_
            have HB := n8_
            clear n0_ n1_ n2_ n3_ n4_ n5_ n6_ n7_ n8_ hb ho73
            refine hK.out _ _ (HS0_) (fun hHeld => ?_); clear hK K
            refine norm_ (a' := ?_) ?_ ?_; rotate_left
            ·show Act.put _ (some 104) _ = _
             simp only [Act.put, List.setIfInBounds_toArray, List.set_cons_zero, List.set_cons_succ, i64_w, i32_w]
             rfl
            exact norm_ (by simp only [putAll, Act.put, List.setIfInBounds_toArray, List.set_cons_zero, List.set_cons_succ]) (hCont (.slice Ao71 y379.length co71, v383, v387) _ ⟨hHeld, (qR (Kd.R_mono HO381.out (fun _ hk => ⟨hk.1.2, ⟨hk.2, ⟨hk.1.1.1, ⟨hk.1.1.2.1, hk.1.1.2.2⟩⟩⟩⟩))), (qR (Kd.R_mono HO384.out (fun _ hk => ⟨hk.1.2.2.2, ⟨hk.2, ⟨hk.1.1, ⟨hk.1.2.1, hk.1.2.2.1⟩⟩⟩⟩))), (qR (Kd.R_mono HO388.out (fun _ hk => ⟨hk.1.2, ⟨hk.2, ⟨hk.1.1.1.1.2, ⟨hk.1.1.1.2, hk.1.1.2⟩⟩⟩⟩))), (qR (Kd.R_mono HO_16.out (fun _ hk => ⟨hk.1.1.2.2, ⟨hk.1.2, ⟨hk.2, ⟨hk.1.1.1, hk.1.1.2.1⟩⟩⟩⟩))), (qR (Kd.R_mono HO_346000.out (fun _ hk => ⟨hk.1.1.2.2, ⟨hk.1.2, ⟨hk.2, ⟨hk.1.1.1, hk.1.1.2.1⟩⟩⟩⟩))), (qR (Kd.R_mono HO_352000.out (fun _ hk => ⟨hk.1.1.2.2, ⟨hk.1.2, ⟨hk.2, ⟨hk.1.1.1, hk.1.1.2.1⟩⟩⟩⟩))), (qB BK345.out), (qB BK351.out), (qW HB.out)⟩)
           ·skip
            refine Kd.R_lit_step (Kd.int .i64) _ 3 ?hg (N := 104) ?hd (xs := ([ji63] : List Int)) (inner := [.int .i64 ji63]) (ok := fun _ => True) (okp := fun _ => True) ?hr ?hp (fun _ hk => hk) trivial (Below.refl _ _) (Nat.le_refl _) (by simp) ?_; (case hd => rfl); (case hg => rfl); (case hr => first | (go_simp; done) | (go_simp; rfl)); (case hp => exact (Reps.one (show Kd.M (Kd.int .i64) _ _ _ ji63 [.int .i64 ji63] from rfl) (Reps.none _ _)))
            intro v387 w70 ho71 hb hg_ hnew_
            have HS0_ := (hb.cell (World.block_lt_of_cell? _ _ (hHeld))).trans (hHeld)
            clear hg_ hnew_
            (first | rw [← Ny386.out] at ho71 | (simp only [Int.reduceToNat] at ho71; rw [← Ny386.out] at ho71))
            have n0_ := Aside0.mk (Kd.R_elder' (qR HO_15.out) (Kd.R_base ho71) hb)
            have n1_ := Aside0.mk (Kd.R_elder' (qR HO_16.out) (Kd.R_base ho71) hb)
            have n2_ := Aside0.mk (Kd.R_elder' (qR HO_346000.out) (Kd.R_base ho71) hb)
            have n3_ := Aside0.mk (Kd.R_elder' (qR HO_352000.out) (Kd.R_base ho71) hb)
            have n4_ := Aside0.mk (Kd.R_elder' (qR HO381.out) (Kd.R_base ho71) hb)
            have n5_ := Aside0.mk (Kd.R_lower (Kd.R_new' (Kd.R_new' (Kd.R_new' (Kd.R_new' (Kd.R_new' ho71 (Kd.R_lt (qR HO_15.out))) (Kd.R_lt (qR HO_16.out))) (Kd.R_lt (qR HO_346000.out))) (Kd.R_lt (qR HO_352000.out))) (Kd.R_lt (qR HO381.out))) (below_size (qW HB.out)))
            have n6_ := Aside0.mk (blk_below (qB BK345.out) hb)
            have n7_ := Aside0.mk (blk_below (qB BK351.out) hb)
            have n8_ := Aside0.mk (below_step (qW HB.out) hb)
            clear HO_15 HO_16 HO_346000 HO_352000 HO381 BK345 BK351 HB
            have HO_15 := n0_
            have HO_16 := n1_
            have HO_346000 := n2_
            have HO_352000 := n3_
            have HO381 := n4_
            have HO388 := n5_
            have BK345 := n6_
            have BK351 := n7_
            have HB := n8_
            clear n0_ n1_ n2_ n3_ n4_ n5_ n6_ n7_ n8_ hb ho71
            obtain ⟨Ao73, co73, eo73⟩ := Kd.R_slice HO381.out
            (first | subst eo73 | (injection eo73 with f1_ f2_ f3_; have f4_ := f1_.symm; have f5_ := f3_.symm; clear f1_ f2_ f3_; subst f4_; subst f5_))
            refine hK.out _ _ (HS0_) (fun hHeld => ?_); clear hK K
            refine norm_ (a' := ?_) ?_ ?_; rotate_left
            ·show Act.put _ (some 104) _ = _
             simp only [Act.put, List.setIfInBounds_toArray, List.set_cons_zero, List.set_cons_succ, i64_w, i32_w]
             rfl
            refine one_ (i := 3) (N := some 94) #[true, true, true, true, true, true, true, true, true, true, true, true, true, true, false, false, false] rfl rfl (one_of HT_.out (by kernel_rfl)) (by decide) (fun K hK => ?_)
            refine Kd.R_append_rows_step (Kd.int .i64) (w0 := w) w.heap.size (by rfl) (.tmp 91) (.tmp 93) 22 3 (.int .i64 0) 8 rfl Try.underlying22 info3 rfl (by decide) (by omega) (.slice (some ad378) x15_2.length co65) x15_2 y379 _ _ _ (fun k_ => some k_ ≠ (.slice (some ad385) x16_2.length co66 : Value).ownBlock ∧ some k_ ≠ (.slice Ao20 t340.length co20 : Value).ownBlock ∧ some k_ ≠ (.slice Ao24 t346.length co24 : Value).ownBlock ∧ some k_ ≠ (.slice Ao73 y379.length co73 : Value).ownBlock ∧ some k_ ≠ (v387 : Value).ownBlock) (fun _ => False) rfl rfl ?aO ?aR (fun _ _ h => h) (fun _ h => h.elim) ?aF ?aB ?aS ?aL ?_
            (case aR => repeat (first | exact (Kd.R_reads' HO381.out).2.2 | (with_reducible refine Kd.C_alloc ?_ _) | (with_reducible refine Kd.C_drewN ?_ _) | (with_reducible refine Kd.C_drew ?_)))
            (case aB => exact (qW HB.out))
            (case aF => exact (fun k_ hk => ⟨Kd.fresh' (Kd.R_lt (qR HO_16.out)) k_ hk, Kd.fresh' (Kd.R_lt (qR HO_346000.out)) k_ hk, Kd.fresh' (Kd.R_lt (qR HO_352000.out)) k_ hk, Kd.fresh' (Kd.R_lt (qR HO381.out)) k_ hk, Kd.fresh' (Kd.R_lt (qR HO388.out)) k_ hk⟩))
            (case aO => exact (qR (Kd.R_mono HO_15.out (fun _ hk => ⟨hk.1.1.1, ⟨hk.1.1.2.1, ⟨hk.1.1.2.2, ⟨hk.1.2, hk.2⟩⟩⟩⟩))))
            (case aS => exact (below_size (qW HB.out)))
            (case aL => have := LMc61.out; omega)
            intro v383 w72 ho hb hg hat
            (first | have HS0_ := cell_grown hg (hHeld) (fun e_ => ((HO_15.out.1 _ e_.symm).1.1.1) rfl) | have HS0_ := cell_grown hg (hHeld) (by first | exact (fun e_ => ((HO_15.out.1 _ e_.symm).1.1.1) rfl) | (rw [add_block]; exact (fun e_ => ((HO_15.out.1 _ e_.symm).1.1.1) rfl)) | (show some (Addr.add _ _).block ≠ _; rw [add_block]; exact (fun e_ => ((HO_15.out.1 _ e_.symm).1.1.1) rfl))) | have HS0_ := cell_grown hg (cell_unalloc (hHeld) (World.block_lt_of_cell? _ _ (hHeld))) (by first | exact (fun e_ => ((HO_15.out.1 _ e_.symm).1.1.1) rfl) | (rw [add_block]; exact (fun e_ => ((HO_15.out.1 _ e_.symm).1.1.1) rfl)) | (show some (Addr.add _ _).block ≠ _; rw [add_block]; exact (fun e_ => ((HO_15.out.1 _ e_.symm).1.1.1) rfl))))
            rw [← Ny382.out] at ho
            have n0_ := Aside0.mk (Kd.R_after (ok := (fun k_ => some k_ ≠ (.slice Ao20 t340.length co20 : Value).ownBlock ∧ some k_ ≠ (.slice Ao24 t346.length co24 : Value).ownBlock ∧ some k_ ≠ (.slice Ao73 y379.length co73 : Value).ownBlock ∧ some k_ ≠ (v387 : Value).ownBlock)) (qR (Kd.R_mono HO_16.out (fun _ hk => ⟨⟨hk.1.1.2.1, ⟨hk.1.1.2.2, ⟨hk.1.2, hk.2⟩⟩⟩, hk.1.1.1⟩))) hg hat)
            have n1_ := Aside0.mk (Kd.R_after (ok := (fun k_ => some k_ ≠ (.slice (some ad385) x16_2.length co66 : Value).ownBlock ∧ some k_ ≠ (.slice Ao24 t346.length co24 : Value).ownBlock ∧ some k_ ≠ (.slice Ao73 y379.length co73 : Value).ownBlock ∧ some k_ ≠ (v387 : Value).ownBlock)) (qR (Kd.R_mono HO_346000.out (fun _ hk => ⟨⟨hk.1.1.2.1, ⟨hk.1.1.2.2, ⟨hk.1.2, hk.2⟩⟩⟩, hk.1.1.1⟩))) hg hat)
            have n2_ := Aside0.mk (Kd.R_after (ok := (fun k_ => some k_ ≠ (.slice (some ad385) x16_2.length co66 : Value).ownBlock ∧ some k_ ≠ (.slice Ao20 t340.length co20 : Value).ownBlock ∧ some k_ ≠ (.slice Ao73 y379.length co73 : Value).ownBlock ∧ some k_ ≠ (v387 : Value).ownBlock)) (qR (Kd.R_mono HO_352000.out (fun _ hk => ⟨⟨hk.1.1.2.1, ⟨hk.1.1.2.2, ⟨hk.1.2, hk.2⟩⟩⟩, hk.1.1.1⟩))) hg hat)
            have n3_ := Aside0.mk (blk_grown (qB BK345.out) hg (Kd.R_ne HO_15.out BK345.out (by decide)))
            have n4_ := Aside0.mk (blk_grown (qB BK351.out) hg (Kd.R_ne HO_15.out BK351.out (by decide)))
            have n5_ := Aside0.mk (Kd.R_after (ok := (fun k_ => some k_ ≠ (.slice (some ad385) x16_2.length co66 : Value).ownBlock ∧ some k_ ≠ (.slice Ao20 t340.length co20 : Value).ownBlock ∧ some k_ ≠ (.slice Ao24 t346.length co24 : Value).ownBlock ∧ some k_ ≠ (v387 : Value).ownBlock)) (qR (Kd.R_mono HO381.out (fun _ hk => ⟨⟨hk.1.1.1.2, ⟨hk.1.1.2, ⟨hk.1.2, hk.2⟩⟩⟩, hk.1.1.1.1.2⟩))) hg hat)
            have n6_ := Aside0.mk (Kd.R_after (ok := (fun k_ => some k_ ≠ (.slice (some ad385) x16_2.length co66 : Value).ownBlock ∧ some k_ ≠ (.slice Ao20 t340.length co20 : Value).ownBlock ∧ some k_ ≠ (.slice Ao24 t346.length co24 : Value).ownBlock ∧ some k_ ≠ (.slice Ao73 y379.length co73 : Value).ownBlock)) (qR (Kd.R_mono HO388.out (fun _ hk => ⟨⟨hk.1.1.1.2, ⟨hk.1.1.2, ⟨hk.1.2, hk.2⟩⟩⟩, hk.1.1.1.1.2⟩))) hg hat)
            have n7_ := Aside0.mk (hb)
            have n8_ := Aside0.mk (ho)
            clear HO_16 HO_346000 HO_352000 BK345 BK351 HO381 HO388 HB HO_15
            have HO_16 := n0_
            have HO_346000 := n1_
            have HO_352000 := n2_
            have BK345 := n3_
            have BK351 := n4_
            have HO381 := n5_
            have HO388 := n6_
            have HB := n7_
            have HO384 := n8_
            clear n0_ n1_ n2_ n3_ n4_ n5_ n6_ n7_ n8_ ho hb hg hat
            refine hK.out _ _ (HS0_) (fun hHeld => ?_); clear hK K
            refine norm_ (a' := ?_) ?_ ?_; rotate_left
            ·show Act.put _ (some 94) _ = _
             simp only [Act.put, List.setIfInBounds_toArray, List.set_cons_zero, List.set_cons_succ, i64_w, i32_w]
             rfl
            exact norm_ (by simp only [putAll, Act.put, List.setIfInBounds_toArray, List.set_cons_zero, List.set_cons_succ]) (hCont (.slice Ao73 y379.length co73, v383, v387) _ ⟨hHeld, (qR (Kd.R_mono HO381.out (fun _ hk => ⟨hk.2, ⟨hk.1.2.2.2, ⟨hk.1.1, ⟨hk.1.2.1, hk.1.2.2.1⟩⟩⟩⟩))), (qR (Kd.R_mono HO384.out (fun _ hk => ⟨hk.2.2.2.1, ⟨hk.2.2.2.2, ⟨hk.1, ⟨hk.2.1, hk.2.2.1⟩⟩⟩⟩))), (qR (Kd.R_mono HO388.out (fun _ hk => ⟨hk.1.2.2.2, ⟨hk.2, ⟨hk.1.1, ⟨hk.1.2.1, hk.1.2.2.1⟩⟩⟩⟩))), (qR (Kd.R_mono HO_16.out (fun _ hk => ⟨hk.1.2.2.1, ⟨hk.2, ⟨hk.1.2.2.2, ⟨hk.1.1, hk.1.2.1⟩⟩⟩⟩))), (qR (Kd.R_mono HO_346000.out (fun _ hk => ⟨hk.1.2.2.1, ⟨hk.2, ⟨hk.1.2.2.2, ⟨hk.1.1, hk.1.2.1⟩⟩⟩⟩))), (qR (Kd.R_mono HO_352000.out (fun _ hk => ⟨hk.1.2.2.1, ⟨hk.2, ⟨hk.1.2.2.2, ⟨hk.1.1, hk.1.2.1⟩⟩⟩⟩))), (qB BK345.out), (qB BK351.out), (qW HB.out)⟩)
          ·skip
           refine Kd.R_lit_step (Kd.int .i64) _ 3 ?hg (N := 104) ?hd (xs := ([ji63] : List Int)) (inner := [.int .i64 ji63]) (ok := fun _ => True) (okp := fun _ => True) ?hr ?hp (fun _ hk => hk) trivial (Below.refl _ _) (Nat.le_refl _) (by simp) ?_; (case hd => rfl); (case hg => rfl); (case hr => first | (go_simp; done) | (go_simp; rfl)); (case hp => exact (Reps.one (show Kd.M (Kd.int .i64) _ _ _ ji63 [.int .i64 ji63] from rfl) (Reps.none _ _)))
           intro v387 w68 ho69 hb hg_ hnew_
           have HS0_ := (hb.cell (World.block_lt_of_cell? _ _ (hHeld))).trans (hHeld)
           clear hg_ hnew_
           (first | rw [← Ny386.out] at ho69 | (simp only [Int.reduceToNat] at ho69; rw [← Ny386.out] at ho69))
           have n0_ := Aside0.mk (Kd.R_elder' (qR HO_15.out) (Kd.R_base ho69) hb)
           have n1_ := Aside0.mk (Kd.R_elder' (qR HO_16.out) (Kd.R_base ho69) hb)
           have n2_ := Aside0.mk (Kd.R_elder' (qR HO_346000.out) (Kd.R_base ho69) hb)
           have n3_ := Aside0.mk (Kd.R_elder' (qR HO_352000.out) (Kd.R_base ho69) hb)
           have n4_ := Aside0.mk (Kd.R_lower (Kd.R_new' (Kd.R_new' (Kd.R_new' (Kd.R_new' ho69 (Kd.R_lt (qR HO_15.out))) (Kd.R_lt (qR HO_16.out))) (Kd.R_lt (qR HO_346000.out))) (Kd.R_lt (qR HO_352000.out))) (below_size (qW HB.out)))
           have n5_ := Aside0.mk (blk_below (qB BK345.out) hb)
           have n6_ := Aside0.mk (blk_below (qB BK351.out) hb)
           have n7_ := Aside0.mk (below_step (qW HB.out) hb)
           clear HO_15 HO_16 HO_346000 HO_352000 BK345 BK351 HB
           have HO_15 := n0_
           have HO_16 := n1_
           have HO_346000 := n2_
           have HO_352000 := n3_
           have HO388 := n4_
           have BK345 := n5_
           have BK351 := n6_
           have HB := n7_
           clear n0_ n1_ n2_ n3_ n4_ n5_ n6_ n7_ hb ho69
           refine hK.out _ _ (HS0_) (fun hHeld => ?_); clear hK K
           refine norm_ (a' := ?_) ?_ ?_; rotate_left
           ·show Act.put _ (some 104) _ = _
            simp only [Act.put, List.setIfInBounds_toArray, List.set_cons_zero, List.set_cons_succ, i64_w, i32_w]
            rfl
           refine one_ (i := 2) (N := some 93) #[true, true, true, false, true, true, true, true, true, true, true, true, true, true, false, false, false] rfl rfl (one_of HT_.out (by kernel_rfl)) (by decide) (fun K hK => ?_)
           refine Kd.R_lit_step (Kd.int .i64) _ 3 ?hg (N := 93) ?hd (xs := ([wrap64 ((rd x15_2 x65_2) + x18_36)] : List Int)) (inner := [.int .i64 (wrap64 ((rd x15_2 x65_2) + x18_36))]) (ok := fun _ => True) (okp := fun _ => True) ?hr ?hp (fun _ hk => hk) trivial (Below.refl _ _) (Nat.le_refl _) (by simp) ?_; (case hd => rfl); (case hg => rfl); (case hr => first | (go_simp; done) | (go_simp; rfl)); (case hp => exact (Reps.one (show Kd.M (Kd.int .i64) _ _ _ (wrap64 ((rd x15_2 x65_2) + x18_36)) [.int .i64 (wrap64 ((rd x15_2 x65_2) + x18_36))] from rfl) (Reps.none _ _)))
           intro v380 w70 ho71 hb hg_ hnew_
           have HS0_ := (hb.cell (World.block_lt_of_cell? _ _ (hHeld))).trans (hHeld)
           clear hg_ hnew_
           (first | rw [← Ny379.out] at ho71 | (simp only [Int.reduceToNat] at ho71; rw [← Ny379.out] at ho71))
           have n0_ := Aside0.mk (Kd.R_elder' (qR HO_15.out) (Kd.R_base ho71) hb)
           have n1_ := Aside0.mk (Kd.R_elder' (qR HO_16.out) (Kd.R_base ho71) hb)
           have n2_ := Aside0.mk (Kd.R_elder' (qR HO_346000.out) (Kd.R_base ho71) hb)
           have n3_ := Aside0.mk (Kd.R_elder' (qR HO_352000.out) (Kd.R_base ho71) hb)
           have n4_ := Aside0.mk (Kd.R_elder' (qR HO388.out) (Kd.R_base ho71) hb)
           have n5_ := Aside0.mk (Kd.R_lower (Kd.R_new' (Kd.R_new' (Kd.R_new' (Kd.R_new' (Kd.R_new' ho71 (Kd.R_lt (qR HO_15.out))) (Kd.R_lt (qR HO_16.out))) (Kd.R_lt (qR HO_346000.out))) (Kd.R_lt (qR HO_352000.out))) (Kd.R_lt (qR HO388.out))) (below_size (qW HB.out)))
           have n6_ := Aside0.mk (blk_below (qB BK345.out) hb)
           have n7_ := Aside0.mk (blk_below (qB BK351.out) hb)
           have n8_ := Aside0.mk (below_step (qW HB.out) hb)
           clear HO_15 HO_16 HO_346000 HO_352000 HO388 BK345 BK351 HB
           have HO_15 := n0_
           have HO_16 := n1_
           have HO_346000 := n2_
           have HO_352000 := n3_
           have HO388 := n4_
           have HO381 := n5_
           have BK345 := n6_
           have BK351 := n7_
           have HB := n8_
           clear n0_ n1_ n2_ n3_ n4_ n5_ n6_ n7_ n8_ hb ho71
           obtain ⟨Ao73, co73, eo73⟩ := Kd.R_slice HO381.out
           (first | subst eo73 | (injection eo73 with f1_ f2_ f3_; have f4_ := f1_.symm; have f5_ := f3_.symm; clear f1_ f2_ f3_; subst f4_; subst f5_))
           refine hK.out _ _ (HS0_) (fun hHeld => ?_); clear hK K
           refine norm_ (a' := ?_) ?_ ?_; rotate_left
           ·show Act.put _ (some 93) _ = _
            simp only [Act.put, List.setIfInBounds_toArray, List.set_cons_zero, List.set_cons_succ, i64_w, i32_w]
            rfl
           refine one_ (i := 3) (N := some 94) #[true, true, true, true, true, true, true, true, true, true, true, true, true, true, false, false, false] rfl rfl (one_of HT_.out (by kernel_rfl)) (by decide) (fun K hK => ?_)
           refine Kd.R_append_rows_step (Kd.int .i64) (w0 := w) w.heap.size (by rfl) (.tmp 91) (.tmp 93) 22 3 (.int .i64 0) 8 rfl Try.underlying22 info3 rfl (by decide) (by omega) (.slice (some ad378) x15_2.length co65) x15_2 y379 _ _ _ (fun k_ => some k_ ≠ (.slice (some ad385) x16_2.length co66 : Value).ownBlock ∧ some k_ ≠ (.slice Ao20 t340.length co20 : Value).ownBlock ∧ some k_ ≠ (.slice Ao24 t346.length co24 : Value).ownBlock ∧ some k_ ≠ (v387 : Value).ownBlock ∧ some k_ ≠ (.slice Ao73 y379.length co73 : Value).ownBlock) (fun _ => False) rfl rfl ?aO ?aR (fun _ _ h => h) (fun _ h => h.elim) ?aF ?aB ?aS ?aL ?_
           (case aR => repeat (first | exact (Kd.R_reads' HO381.out).2.2 | (with_reducible refine Kd.C_alloc ?_ _) | (with_reducible refine Kd.C_drewN ?_ _) | (with_reducible refine Kd.C_drew ?_)))
           (case aB => exact (qW HB.out))
           (case aF => exact (fun k_ hk => ⟨Kd.fresh' (Kd.R_lt (qR HO_16.out)) k_ hk, Kd.fresh' (Kd.R_lt (qR HO_346000.out)) k_ hk, Kd.fresh' (Kd.R_lt (qR HO_352000.out)) k_ hk, Kd.fresh' (Kd.R_lt (qR HO388.out)) k_ hk, Kd.fresh' (Kd.R_lt (qR HO381.out)) k_ hk⟩))
           (case aO => exact (qR (Kd.R_mono HO_15.out (fun _ hk => ⟨hk.1.1.1, ⟨hk.1.1.2.1, ⟨hk.1.1.2.2, ⟨hk.1.2, hk.2⟩⟩⟩⟩))))
           (case aS => exact (below_size (qW HB.out)))
           (case aL => have := LMc61.out; omega)
           intro v383 w72 ho hb hg hat
           (first | have HS0_ := cell_grown hg (hHeld) (fun e_ => ((HO_15.out.1 _ e_.symm).1.1.1) rfl) | have HS0_ := cell_grown hg (hHeld) (by first | exact (fun e_ => ((HO_15.out.1 _ e_.symm).1.1.1) rfl) | (rw [add_block]; exact (fun e_ => ((HO_15.out.1 _ e_.symm).1.1.1) rfl)) | (show some (Addr.add _ _).block ≠ _; rw [add_block]; exact (fun e_ => ((HO_15.out.1 _ e_.symm).1.1.1) rfl))) | have HS0_ := cell_grown hg (cell_unalloc (hHeld) (World.block_lt_of_cell? _ _ (hHeld))) (by first | exact (fun e_ => ((HO_15.out.1 _ e_.symm).1.1.1) rfl) | (rw [add_block]; exact (fun e_ => ((HO_15.out.1 _ e_.symm).1.1.1) rfl)) | (show some (Addr.add _ _).block ≠ _; rw [add_block]; exact (fun e_ => ((HO_15.out.1 _ e_.symm).1.1.1) rfl))))
           rw [← Ny382.out] at ho
           have n0_ := Aside0.mk (Kd.R_after (ok := (fun k_ => some k_ ≠ (.slice Ao20 t340.length co20 : Value).ownBlock ∧ some k_ ≠ (.slice Ao24 t346.length co24 : Value).ownBlock ∧ some k_ ≠ (v387 : Value).ownBlock ∧ some k_ ≠ (.slice Ao73 y379.length co73 : Value).ownBlock)) (qR (Kd.R_mono HO_16.out (fun _ hk => ⟨⟨hk.1.1.2.1, ⟨hk.1.1.2.2, ⟨hk.1.2, hk.2⟩⟩⟩, hk.1.1.1⟩))) hg hat)
           have n1_ := Aside0.mk (Kd.R_after (ok := (fun k_ => some k_ ≠ (.slice (some ad385) x16_2.length co66 : Value).ownBlock ∧ some k_ ≠ (.slice Ao24 t346.length co24 : Value).ownBlock ∧ some k_ ≠ (v387 : Value).ownBlock ∧ some k_ ≠ (.slice Ao73 y379.length co73 : Value).ownBlock)) (qR (Kd.R_mono HO_346000.out (fun _ hk => ⟨⟨hk.1.1.2.1, ⟨hk.1.1.2.2, ⟨hk.1.2, hk.2⟩⟩⟩, hk.1.1.1⟩))) hg hat)
           have n2_ := Aside0.mk (Kd.R_after (ok := (fun k_ => some k_ ≠ (.slice (some ad385) x16_2.length co66 : Value).ownBlock ∧ some k_ ≠ (.slice Ao20 t340.length co20 : Value).ownBlock ∧ some k_ ≠ (v387 : Value).ownBlock ∧ some k_ ≠ (.slice Ao73 y379.length co73 : Value).ownBlock)) (qR (Kd.R_mono HO_352000.out (fun _ hk => ⟨⟨hk.1.1.2.1, ⟨hk.1.1.2.2, ⟨hk.1.2, hk.2⟩⟩⟩, hk.1.1.1⟩))) hg hat)
           have n3_ := Aside0.mk (blk_grown (qB BK345.out) hg (Kd.R_ne HO_15.out BK345.out (by decide)))
           have n4_ := Aside0.mk (blk_grown (qB BK351.out) hg (Kd.R_ne HO_15.out BK351.out (by decide)))
           have n5_ := Aside0.mk (Kd.R_after (ok := (fun k_ => some k_ ≠ (.slice (some ad385) x16_2.length co66 : Value).ownBlock ∧ some k_ ≠ (.slice Ao20 t340.length co20 : Value).ownBlock ∧ some k_ ≠ (.slice Ao24 t346.length co24 : Value).ownBlock ∧ some k_ ≠ (.slice Ao73 y379.length co73 : Value).ownBlock)) (qR (Kd.R_mono HO388.out (fun _ hk => ⟨⟨hk.1.1.1.2, ⟨hk.1.1.2, ⟨hk.1.2, hk.2⟩⟩⟩, hk.1.1.1.1.2⟩))) hg hat)
           have n6_ := Aside0.mk (Kd.R_after (ok := (fun k_ => some k_ ≠ (.slice (some ad385) x16_2.length co66 : Value).ownBlock ∧ some k_ ≠ (.slice Ao20 t340.length co20 : Value).ownBlock ∧ some k_ ≠ (.slice Ao24 t346.length co24 : Value).ownBlock ∧ some k_ ≠ (v387 : Value).ownBlock)) (qR (Kd.R_mono HO381.out (fun _ hk => ⟨⟨hk.1.1.1.2, ⟨hk.1.1.2, ⟨hk.1.2, hk.2⟩⟩⟩, hk.1.1.1.1.2⟩))) hg hat)
           have n7_ := Aside0.mk (hb)
           have n8_ := Aside0.mk (ho)
           clear HO_16 HO_346000 HO_352000 BK345 BK351 HO388 HO381 HB HO_15
           have HO_16 := n0_
           have HO_346000 := n1_
           have HO_352000 := n2_
           have BK345 := n3_
           have BK351 := n4_
           have HO388 := n5_
           have HO381 := n6_
           have HB := n7_
           have HO384 := n8_
           clear n0_ n1_ n2_ n3_ n4_ n5_ n6_ n7_ n8_ ho hb hg hat
           refine hK.out _ _ (HS0_) (fun hHeld => ?_); clear hK K
           refine norm_ (a' := ?_) ?_ ?_; rotate_left
           ·show Act.put _ (some 94) _ = _
            simp only [Act.put, List.setIfInBounds_toArray, List.set_cons_zero, List.set_cons_succ, i64_w, i32_w]
            rfl
           exact norm_ (by simp only [putAll, Act.put, List.setIfInBounds_toArray, List.set_cons_zero, List.set_cons_succ]) (hCont (.slice Ao73 y379.length co73, v383, v387) _ ⟨hHeld, (qR (Kd.R_mono HO381.out (fun _ hk => ⟨hk.2, ⟨hk.1.2.2.2, ⟨hk.1.1, ⟨hk.1.2.1, hk.1.2.2.1⟩⟩⟩⟩))), (qR (Kd.R_mono HO384.out (fun _ hk => ⟨hk.2.2.2.2, ⟨hk.2.2.2.1, ⟨hk.1, ⟨hk.2.1, hk.2.2.1⟩⟩⟩⟩))), (qR (Kd.R_mono HO388.out (fun _ hk => ⟨hk.1.2.2.2, ⟨hk.2, ⟨hk.1.1, ⟨hk.1.2.1, hk.1.2.2.1⟩⟩⟩⟩))), (qR (Kd.R_mono HO_16.out (fun _ hk => ⟨hk.1.2.2.2, ⟨hk.2, ⟨hk.1.2.2.1, ⟨hk.1.1, hk.1.2.1⟩⟩⟩⟩))), (qR (Kd.R_mono HO_346000.out (fun _ hk => ⟨hk.1.2.2.2, ⟨hk.2, ⟨hk.1.2.2.1, ⟨hk.1.1, hk.1.2.1⟩⟩⟩⟩))), (qR (Kd.R_mono HO_352000.out (fun _ hk => ⟨hk.1.2.2.2, ⟨hk.2, ⟨hk.1.2.2.1, ⟨hk.1.1, hk.1.2.1⟩⟩⟩⟩))), (qB BK345.out), (qB BK351.out), (qW HB.out)⟩)
         rintro ⟨v380, v383, v387⟩ w74 ⟨hS_, h0_, h1_, h2_, h3_, h4_, h5_, h6_, h7_, h8_⟩
         have n0_ : Aside0 (Kd.R (Kd.int .i64) 3 w74 w.heap.size (fun k_ => some k_ ≠ (v383 : Value).ownBlock ∧ some k_ ≠ (v387 : Value).ownBlock ∧ some k_ ≠ (.slice (some ad385) x16_2.length co66 : Value).ownBlock ∧ some k_ ≠ (.slice Ao20 t340.length co20 : Value).ownBlock ∧ some k_ ≠ (.slice Ao24 t346.length co24 : Value).ownBlock) v380 y379) := ⟨h0_⟩
         have n1_ : Aside0 (Kd.R (Kd.int .i64) 3 w74 w.heap.size (fun k_ => some k_ ≠ (v380 : Value).ownBlock ∧ some k_ ≠ (v387 : Value).ownBlock ∧ some k_ ≠ (.slice (some ad385) x16_2.length co66 : Value).ownBlock ∧ some k_ ≠ (.slice Ao20 t340.length co20 : Value).ownBlock ∧ some k_ ≠ (.slice Ao24 t346.length co24 : Value).ownBlock) v383 y382) := ⟨h1_⟩
         have n2_ : Aside0 (Kd.R (Kd.int .i64) 3 w74 w.heap.size (fun k_ => some k_ ≠ (v380 : Value).ownBlock ∧ some k_ ≠ (v383 : Value).ownBlock ∧ some k_ ≠ (.slice (some ad385) x16_2.length co66 : Value).ownBlock ∧ some k_ ≠ (.slice Ao20 t340.length co20 : Value).ownBlock ∧ some k_ ≠ (.slice Ao24 t346.length co24 : Value).ownBlock) v387 y386) := ⟨h2_⟩
         have n3_ : Aside0 (Kd.R (Kd.int .i64) 3 w74 w.heap.size (fun k_ => some k_ ≠ (v380 : Value).ownBlock ∧ some k_ ≠ (v383 : Value).ownBlock ∧ some k_ ≠ (v387 : Value).ownBlock ∧ some k_ ≠ (.slice Ao20 t340.length co20 : Value).ownBlock ∧ some k_ ≠ (.slice Ao24 t346.length co24 : Value).ownBlock) (.slice (some ad385) x16_2.length co66) x16_2) := ⟨h3_⟩
         have n4_ : Aside0 (Kd.R (Kd.int .i64) 3 w74 w.heap.size (fun k_ => some k_ ≠ (v380 : Value).ownBlock ∧ some k_ ≠ (v383 : Value).ownBlock ∧ some k_ ≠ (v387 : Value).ownBlock ∧ some k_ ≠ (.slice (some ad385) x16_2.length co66 : Value).ownBlock ∧ some k_ ≠ (.slice Ao24 t346.length co24 : Value).ownBlock) (.slice Ao20 t340.length co20) t340) := ⟨h4_⟩
         have n5_ : Aside0 (Kd.R (Kd.int .i64) 3 w74 w.heap.size (fun k_ => some k_ ≠ (v380 : Value).ownBlock ∧ some k_ ≠ (v383 : Value).ownBlock ∧ some k_ ≠ (v387 : Value).ownBlock ∧ some k_ ≠ (.slice (some ad385) x16_2.length co66 : Value).ownBlock ∧ some k_ ≠ (.slice Ao20 t340.length co20 : Value).ownBlock) (.slice Ao24 t346.length co24) t346) := ⟨h5_⟩
         have n6_ : Aside0 (w74.heap[gb345]? = some (.cells #[.slice Ao20 t340.length co20, .int .i64 t343] 24 (0, 0))) := ⟨h6_⟩
         have n7_ : Aside0 (w74.heap[gb351]? = some (.cells #[.slice Ao24 t346.length co24, .int .i64 t349] 24 (0, 0))) := ⟨h7_⟩
         have n8_ : Aside0 (Below w.heap.size w w74) := ⟨h8_⟩
         clear HO_15 HO_16 HO_346000 HO_352000 BK345 BK351 HB h0_ h1_ h2_ h3_ h4_ h5_ h6_ h7_ h8_
         have HO381 := n0_
         have HO384 := n1_
         have HO388 := n2_
         have HO_16 := n3_
         have HO_346000 := n4_
         have HO_352000 := n5_
         have BK345 := n6_
         have BK351 := n7_
         have HB := n8_
         clear n0_ n1_ n2_ n3_ n4_ n5_ n6_ n7_ n8_
         have hHeld : w74.cell? (ad385.add (x65_2).toNat) = some (.int .i64 (rd x16_2 x65_2)) := hS_
         obtain ⟨Ao76, co76, eo76⟩ := Kd.R_slice HO388.out
         (first | subst eo76 | (injection eo76 with f1_ f2_ f3_; have f4_ := f1_.symm; have f5_ := f3_.symm; clear f1_ f2_ f3_; subst f4_; subst f5_))
         refine norm_ (a' := ?_) ?_ ?_; rotate_left
         ·simp only [putAll, Act.put, List.setIfInBounds_toArray, List.set_cons_zero, List.set_cons_succ]
          rfl
         refine last_ (i := 14) (N := some 105) #[true, true, true, true, true, true, true, true, true, true, true, true, true, true, true, false, false] rfl rfl (one_of HT_.out (by kernel_rfl)) (by decide) (fun K hK => ?_)
         refine Kd.R_append_rows_step (Kd.int .i64) (w0 := w) w.heap.size (by rfl) (.tmp 95) (.tmp 104) 22 3 (.int .i64 0) 8 rfl Try.underlying22 info3 rfl (by decide) (by omega) (.slice (some ad385) x16_2.length co66) x16_2 y386 _ _ _ (fun k_ => some k_ ≠ (.slice Ao20 t340.length co20 : Value).ownBlock ∧ some k_ ≠ (.slice Ao24 t346.length co24 : Value).ownBlock ∧ some k_ ≠ (v380 : Value).ownBlock ∧ some k_ ≠ (v383 : Value).ownBlock ∧ some k_ ≠ (.slice Ao76 y386.length co76 : Value).ownBlock) (fun _ => False) rfl rfl ?aO ?aR (fun _ _ h => h) (fun _ h => h.elim) ?aF ?aB ?aS ?aL ?_
         (case aR => repeat (first | exact (Kd.R_reads' HO388.out).2.2 | (with_reducible refine Kd.C_alloc ?_ _) | (with_reducible refine Kd.C_drewN ?_ _) | (with_reducible refine Kd.C_drew ?_)))
         (case aB => exact (qW HB.out))
         (case aF => exact (fun k_ hk => ⟨Kd.fresh' (Kd.R_lt (qR HO_346000.out)) k_ hk, Kd.fresh' (Kd.R_lt (qR HO_352000.out)) k_ hk, Kd.fresh' (Kd.R_lt (qR HO381.out)) k_ hk, Kd.fresh' (Kd.R_lt (qR HO384.out)) k_ hk, Kd.fresh' (Kd.R_lt (qR HO388.out)) k_ hk⟩))
         (case aO => exact (qR (Kd.R_mono HO_16.out (fun _ hk => ⟨hk.2.2.2.1, ⟨hk.2.2.2.2, ⟨hk.1, ⟨hk.2.1, hk.2.2.1⟩⟩⟩⟩))))
         (case aS => exact (below_size (qW HB.out)))
         (case aL => have := LMc64.out; omega)
         intro v390 w75 ho hb hg hat
         rw [← Ny389.out] at ho
         have n0_ := Aside0.mk (Kd.R_after (ok := (fun k_ => some k_ ≠ (.slice Ao24 t346.length co24 : Value).ownBlock ∧ some k_ ≠ (v380 : Value).ownBlock ∧ some k_ ≠ (v383 : Value).ownBlock ∧ some k_ ≠ (.slice Ao76 y386.length co76 : Value).ownBlock)) (qR (Kd.R_mono HO_346000.out (fun _ hk => ⟨⟨hk.2.2.2.2, ⟨hk.1, ⟨hk.2.1, hk.2.2.1⟩⟩⟩, hk.2.2.2.1⟩))) hg hat)
         have n1_ := Aside0.mk (Kd.R_after (ok := (fun k_ => some k_ ≠ (.slice Ao20 t340.length co20 : Value).ownBlock ∧ some k_ ≠ (v380 : Value).ownBlock ∧ some k_ ≠ (v383 : Value).ownBlock ∧ some k_ ≠ (.slice Ao76 y386.length co76 : Value).ownBlock)) (qR (Kd.R_mono HO_352000.out (fun _ hk => ⟨⟨hk.2.2.2.2, ⟨hk.1, ⟨hk.2.1, hk.2.2.1⟩⟩⟩, hk.2.2.2.1⟩))) hg hat)
         have n2_ := Aside0.mk (blk_grown (qB BK345.out) hg (Kd.R_ne HO_16.out BK345.out (by decide)))
         have n3_ := Aside0.mk (blk_grown (qB BK351.out) hg (Kd.R_ne HO_16.out BK351.out (by decide)))
         have n4_ := Aside0.mk (Kd.R_after (ok := (fun k_ => some k_ ≠ (.slice Ao20 t340.length co20 : Value).ownBlock ∧ some k_ ≠ (.slice Ao24 t346.length co24 : Value).ownBlock ∧ some k_ ≠ (v383 : Value).ownBlock ∧ some k_ ≠ (.slice Ao76 y386.length co76 : Value).ownBlock)) (qR (Kd.R_mono HO381.out (fun _ hk => ⟨⟨hk.2.2.2.1, ⟨hk.2.2.2.2, ⟨hk.1, hk.2.1⟩⟩⟩, hk.2.2.1⟩))) hg hat)
         have n5_ := Aside0.mk (Kd.R_after (ok := (fun k_ => some k_ ≠ (.slice Ao20 t340.length co20 : Value).ownBlock ∧ some k_ ≠ (.slice Ao24 t346.length co24 : Value).ownBlock ∧ some k_ ≠ (v380 : Value).ownBlock ∧ some k_ ≠ (.slice Ao76 y386.length co76 : Value).ownBlock)) (qR (Kd.R_mono HO384.out (fun _ hk => ⟨⟨hk.2.2.2.1, ⟨hk.2.2.2.2, ⟨hk.1, hk.2.1⟩⟩⟩, hk.2.2.1⟩))) hg hat)
         have n6_ := Aside0.mk (Kd.R_after (ok := (fun k_ => some k_ ≠ (.slice Ao20 t340.length co20 : Value).ownBlock ∧ some k_ ≠ (.slice Ao24 t346.length co24 : Value).ownBlock ∧ some k_ ≠ (v380 : Value).ownBlock ∧ some k_ ≠ (v383 : Value).ownBlock)) (qR (Kd.R_mono HO388.out (fun _ hk => ⟨⟨hk.2.2.2.1, ⟨hk.2.2.2.2, ⟨hk.1, hk.2.1⟩⟩⟩, hk.2.2.1⟩))) hg hat)
         have n7_ := Aside0.mk (hb)
         have n8_ := Aside0.mk (ho)
         clear HO_346000 HO_352000 BK345 BK351 HO381 HO384 HO388 HB HO_16
         have HO_346000 := n0_
         have HO_352000 := n1_
         have BK345 := n2_
         have BK351 := n3_
         have HO381 := n4_
         have HO384 := n5_
         have HO388 := n6_
         have HB := n7_
         have HO391 := n8_
         clear n0_ n1_ n2_ n3_ n4_ n5_ n6_ n7_ n8_ ho hb hg hat
         refine hK.out _ _ ?_; clear hK K
         refine norm_ (a' := ?_) ?_ ?_; rotate_left
         ·show Act.put _ (some 105) _ = _
          simp only [Act.put, List.setIfInBounds_toArray, List.set_cons_zero, List.set_cons_succ, i64_w, i32_w]
          rfl
         refine pS (i := 15) (N := some 15) #[true, true, true, true, true, true, true, true, true, true, true, true, true, true, true, true, false] rfl rfl HT_.out ?_
         refine pS (i := 16) (N := some 16) #[true, true, true, true, true, true, true, true, true, true, true, true, true, true, true, true, true] rfl rfl HT_.out ?_
         refine done_ (done_of HT_.out (by kernel_rfl)) ?_
         try go_wp2
         go_roundg kj36
         case measure => have := HJ3.out; have := HK2.out; have := HJ36.out; omega
         case rel => exact ⟨(y382), (y389), (wrap64 (x65_2 + 1)), (by first | rfl | (simp; done) | (simp [*]; done)), H', ⟨by have := HJ3.out; have := HK2.out; have := HJ36.out; omega⟩, ⟨by exact qR (Kd.R_mono HO384.out (fun _ hk => ⟨hk.2, ⟨hk.1.1, hk.1.2.1⟩⟩))⟩, ⟨by exact qR (Kd.R_mono HO391.out (fun _ hk => ⟨hk.2.2.2.1, ⟨hk.1, hk.2.1⟩⟩))⟩, ⟨by exact qR (Kd.R_mono HO_346000.out (fun _ hk => ⟨hk.1.2.2.1, ⟨hk.2, hk.1.1⟩⟩))⟩, ⟨by exact qR (Kd.R_mono HO_352000.out (fun _ hk => ⟨hk.1.2.2.1, ⟨hk.2, hk.1.1⟩⟩))⟩, ⟨by exact qB BK345.out⟩, ⟨by exact qB BK351.out⟩, ⟨by repeat (first | (with_reducible first | exact HB.out | apply below_alloc | apply pw_below_drewN | apply below_drew1 | refine below_set ?_ GE345.out | refine below_set ?_ GE351.out) | exact HB.out)⟩⟩
        rw [if_pos c40] at H
        have c40b0 : decide (x65_2 < (l1.length : Int)) = true := decide_eq_true c40
        clear c40
        by_cases c41 : 0 ≤ x65_2
        case neg =>
         rw [if_neg c41] at H
         exact absurd H (by simp)
        rw [if_pos c41] at H
        have c41b0 : decide (0 ≤ x65_2) = true := decide_eq_true c41
        clear c41
        by_cases c42 : x65_2 < (x15_2.length : Int)
        case neg =>
         rw [if_neg c42] at H
         exact absurd H (by simp)
        rw [if_pos c42] at H
        have c42b0 : decide (x65_2 < (x15_2.length : Int)) = true := decide_eq_true c42
        clear c42
        obtain ⟨y365, hy365⟩ : ∃ y_ : List Int, y_ = (([wrap64 ((rd x15_2 x65_2) + x18_36)] : List Int)) := ⟨_, rfl⟩
        replace H : (if x15_2.length + y365.length < 17592186044416 then (if x65_2 < (x16_2.length : Int) then ((some (([mn (wrap64 ((rd x15_2 x65_2) + x18_36)) (wrap64 ((rd x16_2 x65_2) + (rd l1 x65_2)))] : List Int) : List Int)).bind fun y372 => (if x16_2.length + y372.length < 17592186044416 then (standbylaw55_CurveQueues.l0 kj36 l0 l1 a2 t352 t353 t354 (x15_2 ++ y365) (x16_2 ++ y372) (wrap64 (x65_2 + 1))) else (none))) else (none)) else (none)) = some r := by first | (rw [hy365]; with_reducible exact H) | (have H2_ := (Option.bind_some _ _).symm.trans H; rw [hy365]; with_reducible exact H2_) | (have H2_ := (Option.bind_some _ _).symm.trans H; with_reducible exact H2_) | with_reducible exact H | (rw [hy365]; exact H) | exact H
        have Ny365 := Aside0.mk hy365
        clear hy365
        by_cases c43 : x15_2.length + y365.length < 17592186044416
        case neg =>
         rw [if_neg c43] at H
         exact absurd H (by simp)
        rw [if_pos c43] at H
        have LMc43 := Aside0.mk c43
        clear c43
        obtain ⟨y368, hy368⟩ : ∃ y_ : List Int, y_ = (x15_2 ++ y365) := ⟨_, rfl⟩
        replace H : (if x65_2 < (x16_2.length : Int) then ((some (([mn (wrap64 ((rd x15_2 x65_2) + x18_36)) (wrap64 ((rd x16_2 x65_2) + (rd l1 x65_2)))] : List Int) : List Int)).bind fun y372 => (if x16_2.length + y372.length < 17592186044416 then (standbylaw55_CurveQueues.l0 kj36 l0 l1 a2 t352 t353 t354 y368 (x16_2 ++ y372) (wrap64 (x65_2 + 1))) else (none))) else (none)) = some r := by first | (rw [hy368]; with_reducible exact H) | (have H2_ := (Option.bind_some _ _).symm.trans H; rw [hy368]; with_reducible exact H2_) | (have H2_ := (Option.bind_some _ _).symm.trans H; with_reducible exact H2_) | with_reducible exact H | (rw [hy368]; exact H) | exact H
        have Ny368 := Aside0.mk hy368
        clear hy368
        by_cases c44 : x65_2 < (x16_2.length : Int)
        case neg =>
         rw [if_neg c44] at H
         exact absurd H (by simp)
        rw [if_pos c44] at H
        have c44b0 : decide (x65_2 < (x16_2.length : Int)) = true := decide_eq_true c44
        clear c44
        obtain ⟨ji45, hji45⟩ : ∃ j_ : Int, (mn (wrap64 ((rd x15_2 x65_2) + x18_36)) (wrap64 ((rd x16_2 x65_2) + (rd l1 x65_2)))) = j_ := ⟨_, rfl⟩
        replace H : ((some (([ji45] : List Int) : List Int)).bind fun y372 => (if x16_2.length + y372.length < 17592186044416 then (standbylaw55_CurveQueues.l0 kj36 l0 l1 a2 t352 t353 t354 y368 (x16_2 ++ y372) (wrap64 (x65_2 + 1))) else (none))) = some r := by first | (rw [hji45] at H; exact H) | (simp only [hji45] at H ⊢; exact H)
        have hji45_ : (if (wrap64 ((rd x16_2 x65_2) + (rd l1 x65_2))) < (wrap64 ((rd x15_2 x65_2) + x18_36)) then (wrap64 ((rd x16_2 x65_2) + (rd l1 x65_2))) else (wrap64 ((rd x15_2 x65_2) + x18_36))) = ji45 := hji45
        obtain ⟨y372, hy372⟩ : ∃ y_ : List Int, y_ = (([ji45] : List Int)) := ⟨_, rfl⟩
        replace H : (if x16_2.length + y372.length < 17592186044416 then (standbylaw55_CurveQueues.l0 kj36 l0 l1 a2 t352 t353 t354 y368 (x16_2 ++ y372) (wrap64 (x65_2 + 1))) else (none)) = some r := by first | (rw [hy372]; with_reducible exact H) | (have H2_ := (Option.bind_some _ _).symm.trans H; rw [hy372]; with_reducible exact H2_) | (have H2_ := (Option.bind_some _ _).symm.trans H; with_reducible exact H2_) | with_reducible exact H | (rw [hy372]; exact H) | exact H
        have Ny372 := Aside0.mk hy372
        clear hy372
        by_cases c46 : x16_2.length + y372.length < 17592186044416
        case neg =>
         rw [if_neg c46] at H
         exact absurd H (by simp)
        rw [if_pos c46] at H
        have LMc46 := Aside0.mk c46
        clear c46
        obtain ⟨y375, hy375⟩ : ∃ y_ : List Int, y_ = (x16_2 ++ y372) := ⟨_, rfl⟩
        replace H : (standbylaw55_CurveQueues.l0 kj36 l0 l1 a2 t352 t353 t354 y368 y375 (wrap64 (x65_2 + 1))) = some r := by first | (rw [hy375]; with_reducible exact H) | (have H2_ := (Option.bind_some _ _).symm.trans H; rw [hy375]; with_reducible exact H2_) | (have H2_ := (Option.bind_some _ _).symm.trans H; with_reducible exact H2_) | with_reducible exact H | (rw [hy375]; exact H) | exact H
        have Ny375 := Aside0.mk hy375
        clear hy375
        have H' := Aside0.mk H
        clear H
        have p363 : 0 ≤ (x65_2 : Int) := of_decide_eq_true (by first | (with_reducible assumption) | assumption)
        have q363 : x65_2 < (l1.length : Int) := of_decide_eq_true (by first | (with_reducible assumption) | assumption)
        obtain ⟨ad363, e363, hx363_0⟩ := Kd.at_int HR1.out x65_2 p363 q363
        cases e363
        replace hx363_0 := (HB.out.cell (World.block_lt_of_cell? w _ hx363_0)).trans hx363_0
        replace p363 := eq_true p363
        replace q363 := eq_true q363
        obtain ⟨Ao47, co47, eo47⟩ := Kd.R_slice HO_15.out
        subst eo47
        have p364 : 0 ≤ (x65_2 : Int) := of_decide_eq_true (by first | (with_reducible assumption) | assumption)
        have q364 : x65_2 < (x15_2.length : Int) := of_decide_eq_true (by first | (with_reducible assumption) | assumption)
        obtain ⟨ad364, e364, hx364_0⟩ := Kd.at_int (Kd.R_reads' HO_15.out).2.2 x65_2 p364 q364
        cases e364
        replace p364 := eq_true p364
        replace q364 := eq_true q364
        obtain ⟨Ao48, co48, eo48⟩ := Kd.R_slice HO_16.out
        subst eo48
        try go_wp2
        have n0_ := Aside0.mk (Kd.R_drew HO_15.out)
        have n1_ := Aside0.mk (Kd.R_drew HO_16.out)
        have n2_ := Aside0.mk (Kd.R_drew HO_346000.out)
        have n3_ := Aside0.mk (Kd.R_drew HO_352000.out)
        have n4_ := Aside0.mk (blk_drew BK345.out)
        have n5_ := Aside0.mk (blk_drew BK351.out)
        have n6_ := Aside0.mk (below_drew1 HB.out)
        clear HO_15 HO_16 HO_346000 HO_352000 BK345 BK351 HB
        have HO_15 := n0_
        have HO_16 := n1_
        have HO_346000 := n2_
        have HO_352000 := n3_
        have BK345 := n4_
        have BK351 := n5_
        have HB := n6_
        clear n0_ n1_ n2_ n3_ n4_ n5_ n6_
        have p371 : 0 ≤ (x65_2 : Int) := of_decide_eq_true (by first | (with_reducible assumption) | assumption)
        have q371 : x65_2 < (x16_2.length : Int) := of_decide_eq_true (by first | (with_reducible assumption) | assumption)
        obtain ⟨ad371, e371, hx371_0⟩ := Kd.at_int (Kd.R_reads' HO_16.out).2.2 x65_2 p371 q371
        cases e371
        replace p371 := eq_true p371
        replace q371 := eq_true q371
        refine start_ (n := 17) (S := fun w' => w'.cell? (ad371.add (x65_2).toNat) = some (.int .i64 (rd x16_2 x65_2))) (ds := [14]) #[false, false, false, false, false, false, false, false, false, false, false, false, false, false, false, false, false] (by kernel_rfl) rfl rfl (hx371_0) (fun hHeld => ?_); refine with_tabW standbylaw55_CurveQueues.tab21 standbylaw55_CurveQueues.bits21 (fun HT_ HW_ => ?_)
        generalize wc.drew = w49 at HO_15 HO_16 HO_346000 HO_352000 BK345 BK351 HB hx371_0 hHeld ⊢
        refine pS (i := 0) (N := some 91) #[true, false, false, false, false, false, false, false, false, false, false, false, false, false, false, false, false] rfl rfl HT_.out ?_
        refine pS (i := 1) (N := some 92) #[true, true, false, false, false, false, false, false, false, false, false, false, false, false, false, false, false] rfl rfl HT_.out ?_
        refine pS (i := 4) (N := some 95) #[true, true, false, false, true, false, false, false, false, false, false, false, false, false, false, false, false] rfl rfl HT_.out ?_
        refine pS (i := 5) (N := some 96) #[true, true, false, false, true, true, false, false, false, false, false, false, false, false, false, false, false] rfl rfl HT_.out ?_
        refine pS (i := 6) (N := some 97) #[true, true, false, false, true, true, true, false, false, false, false, false, false, false, false, false, false] rfl rfl HT_.out ?_
        refine pS (i := 7) (N := some 98) #[true, true, false, false, true, true, true, true, false, false, false, false, false, false, false, false, false] rfl rfl HT_.out ?_
        refine pS (i := 8) (N := some 99) #[true, true, false, false, true, true, true, true, true, false, false, false, false, false, false, false, false] rfl rfl HT_.out ?_
        refine pS (i := 10) (N := some 101) #[true, true, false, false, true, true, true, true, true, false, true, false, false, false, false, false, false] rfl rfl HT_.out ?_
        refine take_ (i := 9) (N := some 100) (v := ?_) (a' := ?_) #[true, true, false, false, true, true, true, true, true, true, true, false, false, false, false, false, false] rfl rfl (take_ofW HT_.out HW_.out (by kernel_rfl)) (fun _ _ _ h => h) (Or.inl ⟨by rfl, ?_⟩) hHeld ?_ ?_; rotate_left
        ·intro w' s0
         go_simp
         with_reducible rfl
        rotate_left
        ·simp only [Act.put, List.setIfInBounds_toArray, List.set_cons_zero, List.set_cons_succ, i64_w, i32_w]
         rfl
        refine pS (i := 11) (N := some 102) #[true, true, false, false, true, true, true, true, true, true, true, true, false, false, false, false, false] rfl rfl HT_.out ?_
        refine pS (i := 12) (N := some 103) #[true, true, false, false, true, true, true, true, true, true, true, true, true, false, false, false, false] rfl rfl HT_.out ?_
        refine join_ (σ := Value × Value × Value) 3 #[true, true, true, true, true, true, true, true, true, true, true, true, true, true, false, false, false] (fun s_ => [(93, s_.1), (94, s_.2.1), (104, s_.2.2)]) (fun s_ w' => (w'.cell? (ad371.add (x65_2).toNat) = some (.int .i64 (rd x16_2 x65_2))) ∧ (Kd.R (Kd.int .i64) 3 w' w.heap.size (fun k_ => some k_ ≠ (s_.2.1 : Value).ownBlock ∧ some k_ ≠ (s_.2.2 : Value).ownBlock ∧ some k_ ≠ (.slice (some ad371) x16_2.length co48 : Value).ownBlock ∧ some k_ ≠ (.slice Ao20 t340.length co20 : Value).ownBlock ∧ some k_ ≠ (.slice Ao24 t346.length co24 : Value).ownBlock) s_.1 y365) ∧ (Kd.R (Kd.int .i64) 3 w' w.heap.size (fun k_ => some k_ ≠ (s_.1 : Value).ownBlock ∧ some k_ ≠ (s_.2.2 : Value).ownBlock ∧ some k_ ≠ (.slice (some ad371) x16_2.length co48 : Value).ownBlock ∧ some k_ ≠ (.slice Ao20 t340.length co20 : Value).ownBlock ∧ some k_ ≠ (.slice Ao24 t346.length co24 : Value).ownBlock) s_.2.1 y368) ∧ (Kd.R (Kd.int .i64) 3 w' w.heap.size (fun k_ => some k_ ≠ (s_.1 : Value).ownBlock ∧ some k_ ≠ (s_.2.1 : Value).ownBlock ∧ some k_ ≠ (.slice (some ad371) x16_2.length co48 : Value).ownBlock ∧ some k_ ≠ (.slice Ao20 t340.length co20 : Value).ownBlock ∧ some k_ ≠ (.slice Ao24 t346.length co24 : Value).ownBlock) s_.2.2 y372) ∧ (Kd.R (Kd.int .i64) 3 w' w.heap.size (fun k_ => some k_ ≠ (s_.1 : Value).ownBlock ∧ some k_ ≠ (s_.2.1 : Value).ownBlock ∧ some k_ ≠ (s_.2.2 : Value).ownBlock ∧ some k_ ≠ (.slice Ao20 t340.length co20 : Value).ownBlock ∧ some k_ ≠ (.slice Ao24 t346.length co24 : Value).ownBlock) (.slice (some ad371) x16_2.length co48) x16_2) ∧ (Kd.R (Kd.int .i64) 3 w' w.heap.size (fun k_ => some k_ ≠ (s_.1 : Value).ownBlock ∧ some k_ ≠ (s_.2.1 : Value).ownBlock ∧ some k_ ≠ (s_.2.2 : Value).ownBlock ∧ some k_ ≠ (.slice (some ad371) x16_2.length co48 : Value).ownBlock ∧ some k_ ≠ (.slice Ao24 t346.length co24 : Value).ownBlock) (.slice Ao20 t340.length co20) t340) ∧ (Kd.R (Kd.int .i64) 3 w' w.heap.size (fun k_ => some k_ ≠ (s_.1 : Value).ownBlock ∧ some k_ ≠ (s_.2.1 : Value).ownBlock ∧ some k_ ≠ (s_.2.2 : Value).ownBlock ∧ some k_ ≠ (.slice (some ad371) x16_2.length co48 : Value).ownBlock ∧ some k_ ≠ (.slice Ao20 t340.length co20 : Value).ownBlock) (.slice Ao24 t346.length co24) t346) ∧ (w'.heap[gb345]? = some (.cells #[.slice Ao20 t340.length co20, .int .i64 t343] 24 (0, 0))) ∧ (w'.heap[gb351]? = some (.cells #[.slice Ao24 t346.length co24, .int .i64 t349] 24 (0, 0))) ∧ (Below w.heap.size w w')) ?_ ?_; rotate_left
        ·intro hCont
         refine two_ (i := 2) (j := 13) (Ni := some 93) (Nj := some 104) #[true, true, true, false, true, true, true, true, true, true, true, true, true, false, false, false, false] #[true, true, false, false, true, true, true, true, true, true, true, true, true, true, false, false, false] rfl rfl rfl rfl (two_of HT_.out (by kernel_rfl)) (by decide) (by decide) (fun K hK => ?_) (fun K hK => ?_)
         ·skip
          refine Kd.R_lit_step (Kd.int .i64) _ 3 ?hg (N := 93) ?hd (xs := ([wrap64 ((rd x15_2 x65_2) + x18_36)] : List Int)) (inner := [.int .i64 (wrap64 ((rd x15_2 x65_2) + x18_36))]) (ok := fun _ => True) (okp := fun _ => True) ?hr ?hp (fun _ hk => hk) trivial (Below.refl _ _) (Nat.le_refl _) (by simp) ?_; (case hd => rfl); (case hg => rfl); (case hr => first | (go_simp; done) | (go_simp; rfl)); (case hp => exact (Reps.one (show Kd.M (Kd.int .i64) _ _ _ (wrap64 ((rd x15_2 x65_2) + x18_36)) [.int .i64 (wrap64 ((rd x15_2 x65_2) + x18_36))] from rfl) (Reps.none _ _)))
          intro v366 w50 ho51 hb hg_ hnew_
          have HS0_ := (hb.cell (World.block_lt_of_cell? _ _ (hHeld))).trans (hHeld)
          clear hg_ hnew_
          (first | rw [← Ny365.out] at ho51 | (simp only [Int.reduceToNat] at ho51; rw [← Ny365.out] at ho51))
          have n0_ := Aside0.mk (Kd.R_elder' (qR HO_15.out) (Kd.R_base ho51) hb)
          have n1_ := Aside0.mk (Kd.R_elder' (qR HO_16.out) (Kd.R_base ho51) hb)
          have n2_ := Aside0.mk (Kd.R_elder' (qR HO_346000.out) (Kd.R_base ho51) hb)
          have n3_ := Aside0.mk (Kd.R_elder' (qR HO_352000.out) (Kd.R_base ho51) hb)
          have n4_ := Aside0.mk (Kd.R_lower (Kd.R_new' (Kd.R_new' (Kd.R_new' (Kd.R_new' ho51 (Kd.R_lt (qR HO_15.out))) (Kd.R_lt (qR HO_16.out))) (Kd.R_lt (qR HO_346000.out))) (Kd.R_lt (qR HO_352000.out))) (below_size (qW HB.out)))
          have n5_ := Aside0.mk (blk_below (qB BK345.out) hb)
          have n6_ := Aside0.mk (blk_below (qB BK351.out) hb)
          have n7_ := Aside0.mk (below_step (qW HB.out) hb)
          clear HO_15 HO_16 HO_346000 HO_352000 BK345 BK351 HB
          have HO_15 := n0_
          have HO_16 := n1_
          have HO_346000 := n2_
          have HO_352000 := n3_
          have HO367 := n4_
          have BK345 := n5_
          have BK351 := n6_
          have HB := n7_
          clear n0_ n1_ n2_ n3_ n4_ n5_ n6_ n7_ hb ho51
          obtain ⟨Ao53, co53, eo53⟩ := Kd.R_slice HO367.out
          (first | subst eo53 | (injection eo53 with f1_ f2_ f3_; have f4_ := f1_.symm; have f5_ := f3_.symm; clear f1_ f2_ f3_; subst f4_; subst f5_))
          refine hK.out _ _ (HS0_) (fun hHeld => ?_); clear hK K
          refine norm_ (a' := ?_) ?_ ?_; rotate_left
          ·show Act.put _ (some 93) _ = _
           simp only [Act.put, List.setIfInBounds_toArray, List.set_cons_zero, List.set_cons_succ, i64_w, i32_w]
           rfl
          refine two_ (i := 3) (j := 13) (Ni := some 94) (Nj := some 104) #[true, true, true, true, true, true, true, true, true, true, true, true, true, false, false, false, false] #[true, true, true, false, true, true, true, true, true, true, true, true, true, true, false, false, false] rfl rfl rfl rfl (two_of HT_.out (by kernel_rfl)) (by decide) (by decide) (fun K hK => ?_) (fun K hK => ?_)
          ·skip
           refine Kd.R_append_rows_step (Kd.int .i64) (w0 := w) w.heap.size (by rfl) (.tmp 91) (.tmp 93) 22 3 (.int .i64 0) 8 rfl Try.underlying22 info3 rfl (by decide) (by omega) (.slice (some ad364) x15_2.length co47) x15_2 y365 _ _ _ (fun k_ => some k_ ≠ (.slice (some ad371) x16_2.length co48 : Value).ownBlock ∧ some k_ ≠ (.slice Ao20 t340.length co20 : Value).ownBlock ∧ some k_ ≠ (.slice Ao24 t346.length co24 : Value).ownBlock ∧ some k_ ≠ (.slice Ao53 y365.length co53 : Value).ownBlock) (fun _ => False) rfl rfl ?aO ?aR (fun _ _ h => h) (fun _ h => h.elim) ?aF ?aB ?aS ?aL ?_
           (case aR => repeat (first | exact (Kd.R_reads' HO367.out).2.2 | (with_reducible refine Kd.C_alloc ?_ _) | (with_reducible refine Kd.C_drewN ?_ _) | (with_reducible refine Kd.C_drew ?_)))
           (case aB => exact (qW HB.out))
           (case aF => exact (fun k_ hk => ⟨Kd.fresh' (Kd.R_lt (qR HO_16.out)) k_ hk, Kd.fresh' (Kd.R_lt (qR HO_346000.out)) k_ hk, Kd.fresh' (Kd.R_lt (qR HO_352000.out)) k_ hk, Kd.fresh' (Kd.R_lt (qR HO367.out)) k_ hk⟩))
           (case aO => exact (qR (Kd.R_mono HO_15.out (fun _ hk => ⟨hk.1.1, ⟨hk.1.2.1, ⟨hk.1.2.2, hk.2⟩⟩⟩))))
           (case aS => exact (below_size (qW HB.out)))
           (case aL => have := LMc43.out; omega)
           intro v369 w52 ho hb hg hat
           (first | have HS0_ := cell_grown hg (hHeld) (fun e_ => ((HO_15.out.1 _ e_.symm).1.1) rfl) | have HS0_ := cell_grown hg (hHeld) (by first | exact (fun e_ => ((HO_15.out.1 _ e_.symm).1.1) rfl) | (rw [add_block]; exact (fun e_ => ((HO_15.out.1 _ e_.symm).1.1) rfl)) | (show some (Addr.add _ _).block ≠ _; rw [add_block]; exact (fun e_ => ((HO_15.out.1 _ e_.symm).1.1) rfl))) | have HS0_ := cell_grown hg (cell_unalloc (hHeld) (World.block_lt_of_cell? _ _ (hHeld))) (by first | exact (fun e_ => ((HO_15.out.1 _ e_.symm).1.1) rfl) | (rw [add_block]; exact (fun e_ => ((HO_15.out.1 _ e_.symm).1.1) rfl)) | (show some (Addr.add _ _).block ≠ _; rw [add_block]; exact (fun e_ => ((HO_15.out.1 _ e_.symm).1.1) rfl))))
           rw [← Ny368.out] at ho
           have n0_ := Aside0.mk (Kd.R_after (ok := (fun k_ => some k_ ≠ (.slice Ao20 t340.length co20 : Value).ownBlock ∧ some k_ ≠ (.slice Ao24 t346.length co24 : Value).ownBlock ∧ some k_ ≠ (.slice Ao53 y365.length co53 : Value).ownBlock)) (qR (Kd.R_mono HO_16.out (fun _ hk => ⟨⟨hk.1.2.1, ⟨hk.1.2.2, hk.2⟩⟩, hk.1.1⟩))) hg hat)
           have n1_ := Aside0.mk (Kd.R_after (ok := (fun k_ => some k_ ≠ (.slice (some ad371) x16_2.length co48 : Value).ownBlock ∧ some k_ ≠ (.slice Ao24 t346.length co24 : Value).ownBlock ∧ some k_ ≠ (.slice Ao53 y365.length co53 : Value).ownBlock)) (qR (Kd.R_mono HO_346000.out (fun _ hk => ⟨⟨hk.1.2.1, ⟨hk.1.2.2, hk.2⟩⟩, hk.1.1⟩))) hg hat)
           have n2_ := Aside0.mk (Kd.R_after (ok := (fun k_ => some k_ ≠ (.slice (some ad371) x16_2.length co48 : Value).ownBlock ∧ some k_ ≠ (.slice Ao20 t340.length co20 : Value).ownBlock ∧ some k_ ≠ (.slice Ao53 y365.length co53 : Value).ownBlock)) (qR (Kd.R_mono HO_352000.out (fun _ hk => ⟨⟨hk.1.2.1, ⟨hk.1.2.2, hk.2⟩⟩, hk.1.1⟩))) hg hat)
           have n3_ := Aside0.mk (blk_grown (qB BK345.out) hg (Kd.R_ne HO_15.out BK345.out (by decide)))
           have n4_ := Aside0.mk (blk_grown (qB BK351.out) hg (Kd.R_ne HO_15.out BK351.out (by decide)))
           have n5_ := Aside0.mk (Kd.R_after (ok := (fun k_ => some k_ ≠ (.slice (some ad371) x16_2.length co48 : Value).ownBlock ∧ some k_ ≠ (.slice Ao20 t340.length co20 : Value).ownBlock ∧ some k_ ≠ (.slice Ao24 t346.length co24 : Value).ownBlock)) (qR (Kd.R_mono HO367.out (fun _ hk => ⟨⟨hk.1.1.2, ⟨hk.1.2, hk.2⟩⟩, hk.1.1.1.2⟩))) hg hat)
           have n6_ := Aside0.mk (hb)
           have n7_ := Aside0.mk (ho)
           clear HO_16 HO_346000 HO_352000 BK345 BK351 HO367 HB HO_15
           have HO_16 := n0_
           have HO_346000 := n1_
           have HO_352000 := n2_
           have BK345 := n3_
           have BK351 := n4_
           have HO367 := n5_
           have HB := n6_
           have HO370 := n7_
           clear n0_ n1_ n2_ n3_ n4_ n5_ n6_ n7_ ho hb hg hat
           refine hK.out _ _ (HS0_) (fun hHeld => ?_); clear hK K
           refine norm_ (a' := ?_) ?_ ?_; rotate_left
           ·show Act.put _ (some 94) _ = _
            simp only [Act.put, List.setIfInBounds_toArray, List.set_cons_zero, List.set_cons_succ, i64_w, i32_w]
            rfl
           refine one_ (i := 13) (N := some 104) #[true, true, true, true, true, true, true, true, true, true, true, true, true, true, false, false, false] rfl rfl (one_of HT_.out (by kernel_rfl)) (by decide) (fun K hK => ?_)
           refine Kd.R_lit_step (Kd.int .i64) _ 3 ?hg (N := 104) ?hd (xs := ([ji45] : List Int)) (inner := [.int .i64 ji45]) (ok := fun _ => True) (okp := fun _ => True) ?hr ?hp (fun _ hk => hk) trivial (Below.refl _ _) (Nat.le_refl _) (by simp) ?_; (case hd => rfl); (case hg => rfl); (case hr => first | (go_simp; done) | (go_simp; rfl)); (case hp => exact (Reps.one (show Kd.M (Kd.int .i64) _ _ _ ji45 [.int .i64 ji45] from rfl) (Reps.none _ _)))
           intro v373 w54 ho55 hb hg_ hnew_
           have HS0_ := (hb.cell (World.block_lt_of_cell? _ _ (hHeld))).trans (hHeld)
           clear hg_ hnew_
           (first | rw [← Ny372.out] at ho55 | (simp only [Int.reduceToNat] at ho55; rw [← Ny372.out] at ho55))
           have n0_ := Aside0.mk (Kd.R_elder' (qR HO_16.out) (Kd.R_base ho55) hb)
           have n1_ := Aside0.mk (Kd.R_elder' (qR HO_346000.out) (Kd.R_base ho55) hb)
           have n2_ := Aside0.mk (Kd.R_elder' (qR HO_352000.out) (Kd.R_base ho55) hb)
           have n3_ := Aside0.mk (Kd.R_elder' (qR HO367.out) (Kd.R_base ho55) hb)
           have n4_ := Aside0.mk (Kd.R_elder' (qR HO370.out) (Kd.R_base ho55) hb)
           have n5_ := Aside0.mk (Kd.R_lower (Kd.R_new' (Kd.R_new' (Kd.R_new' (Kd.R_new' (Kd.R_new' ho55 (Kd.R_lt (qR HO_16.out))) (Kd.R_lt (qR HO_346000.out))) (Kd.R_lt (qR HO_352000.out))) (Kd.R_lt (qR HO367.out))) (Kd.R_lt (qR HO370.out))) (below_size (qW HB.out)))
           have n6_ := Aside0.mk (blk_below (qB BK345.out) hb)
           have n7_ := Aside0.mk (blk_below (qB BK351.out) hb)
           have n8_ := Aside0.mk (below_step (qW HB.out) hb)
           clear HO_16 HO_346000 HO_352000 HO367 HO370 BK345 BK351 HB
           have HO_16 := n0_
           have HO_346000 := n1_
           have HO_352000 := n2_
           have HO367 := n3_
           have HO370 := n4_
           have HO374 := n5_
           have BK345 := n6_
           have BK351 := n7_
           have HB := n8_
           clear n0_ n1_ n2_ n3_ n4_ n5_ n6_ n7_ n8_ hb ho55
           refine hK.out _ _ (HS0_) (fun hHeld => ?_); clear hK K
           refine norm_ (a' := ?_) ?_ ?_; rotate_left
           ·show Act.put _ (some 104) _ = _
            simp only [Act.put, List.setIfInBounds_toArray, List.set_cons_zero, List.set_cons_succ, i64_w, i32_w]
            rfl
           exact norm_ (by simp only [putAll, Act.put, List.setIfInBounds_toArray, List.set_cons_zero, List.set_cons_succ]) (hCont (.slice Ao53 y365.length co53, v369, v373) _ ⟨hHeld, (qR (Kd.R_mono HO367.out (fun _ hk => ⟨hk.1.2, ⟨hk.2, ⟨hk.1.1.1, ⟨hk.1.1.2.1, hk.1.1.2.2⟩⟩⟩⟩))), (qR (Kd.R_mono HO370.out (fun _ hk => ⟨hk.1.2.2.2, ⟨hk.2, ⟨hk.1.1, ⟨hk.1.2.1, hk.1.2.2.1⟩⟩⟩⟩))), (qR (Kd.R_mono HO374.out (fun _ hk => ⟨hk.1.2, ⟨hk.2, ⟨hk.1.1.1.1.2, ⟨hk.1.1.1.2, hk.1.1.2⟩⟩⟩⟩))), (qR (Kd.R_mono HO_16.out (fun _ hk => ⟨hk.1.1.2.2, ⟨hk.1.2, ⟨hk.2, ⟨hk.1.1.1, hk.1.1.2.1⟩⟩⟩⟩))), (qR (Kd.R_mono HO_346000.out (fun _ hk => ⟨hk.1.1.2.2, ⟨hk.1.2, ⟨hk.2, ⟨hk.1.1.1, hk.1.1.2.1⟩⟩⟩⟩))), (qR (Kd.R_mono HO_352000.out (fun _ hk => ⟨hk.1.1.2.2, ⟨hk.1.2, ⟨hk.2, ⟨hk.1.1.1, hk.1.1.2.1⟩⟩⟩⟩))), (qB BK345.out), (qB BK351.out), (qW HB.out)⟩)
          ·skip
           refine Kd.R_lit_step (Kd.int .i64) _ 3 ?hg (N := 104) ?hd (xs := ([ji45] : List Int)) (inner := [.int .i64 ji45]) (ok := fun _ => True) (okp := fun _ => True) ?hr ?hp (fun _ hk => hk) trivial (Below.refl _ _) (Nat.le_refl _) (by simp) ?_; (case hd => rfl); (case hg => rfl); (case hr => first | (go_simp; done) | (go_simp; rfl)); (case hp => exact (Reps.one (show Kd.M (Kd.int .i64) _ _ _ ji45 [.int .i64 ji45] from rfl) (Reps.none _ _)))
           intro v373 w52 ho53 hb hg_ hnew_
           have HS0_ := (hb.cell (World.block_lt_of_cell? _ _ (hHeld))).trans (hHeld)
           clear hg_ hnew_
           (first | rw [← Ny372.out] at ho53 | (simp only [Int.reduceToNat] at ho53; rw [← Ny372.out] at ho53))
           have n0_ := Aside0.mk (Kd.R_elder' (qR HO_15.out) (Kd.R_base ho53) hb)
           have n1_ := Aside0.mk (Kd.R_elder' (qR HO_16.out) (Kd.R_base ho53) hb)
           have n2_ := Aside0.mk (Kd.R_elder' (qR HO_346000.out) (Kd.R_base ho53) hb)
           have n3_ := Aside0.mk (Kd.R_elder' (qR HO_352000.out) (Kd.R_base ho53) hb)
           have n4_ := Aside0.mk (Kd.R_elder' (qR HO367.out) (Kd.R_base ho53) hb)
           have n5_ := Aside0.mk (Kd.R_lower (Kd.R_new' (Kd.R_new' (Kd.R_new' (Kd.R_new' (Kd.R_new' ho53 (Kd.R_lt (qR HO_15.out))) (Kd.R_lt (qR HO_16.out))) (Kd.R_lt (qR HO_346000.out))) (Kd.R_lt (qR HO_352000.out))) (Kd.R_lt (qR HO367.out))) (below_size (qW HB.out)))
           have n6_ := Aside0.mk (blk_below (qB BK345.out) hb)
           have n7_ := Aside0.mk (blk_below (qB BK351.out) hb)
           have n8_ := Aside0.mk (below_step (qW HB.out) hb)
           clear HO_15 HO_16 HO_346000 HO_352000 HO367 BK345 BK351 HB
           have HO_15 := n0_
           have HO_16 := n1_
           have HO_346000 := n2_
           have HO_352000 := n3_
           have HO367 := n4_
           have HO374 := n5_
           have BK345 := n6_
           have BK351 := n7_
           have HB := n8_
           clear n0_ n1_ n2_ n3_ n4_ n5_ n6_ n7_ n8_ hb ho53
           obtain ⟨Ao55, co55, eo55⟩ := Kd.R_slice HO367.out
           (first | subst eo55 | (injection eo55 with f1_ f2_ f3_; have f4_ := f1_.symm; have f5_ := f3_.symm; clear f1_ f2_ f3_; subst f4_; subst f5_))
           refine hK.out _ _ (HS0_) (fun hHeld => ?_); clear hK K
           refine norm_ (a' := ?_) ?_ ?_; rotate_left
           ·show Act.put _ (some 104) _ = _
            simp only [Act.put, List.setIfInBounds_toArray, List.set_cons_zero, List.set_cons_succ, i64_w, i32_w]
            rfl
           refine one_ (i := 3) (N := some 94) #[true, true, true, true, true, true, true, true, true, true, true, true, true, true, false, false, false] rfl rfl (one_of HT_.out (by kernel_rfl)) (by decide) (fun K hK => ?_)
           refine Kd.R_append_rows_step (Kd.int .i64) (w0 := w) w.heap.size (by rfl) (.tmp 91) (.tmp 93) 22 3 (.int .i64 0) 8 rfl Try.underlying22 info3 rfl (by decide) (by omega) (.slice (some ad364) x15_2.length co47) x15_2 y365 _ _ _ (fun k_ => some k_ ≠ (.slice (some ad371) x16_2.length co48 : Value).ownBlock ∧ some k_ ≠ (.slice Ao20 t340.length co20 : Value).ownBlock ∧ some k_ ≠ (.slice Ao24 t346.length co24 : Value).ownBlock ∧ some k_ ≠ (.slice Ao55 y365.length co55 : Value).ownBlock ∧ some k_ ≠ (v373 : Value).ownBlock) (fun _ => False) rfl rfl ?aO ?aR (fun _ _ h => h) (fun _ h => h.elim) ?aF ?aB ?aS ?aL ?_
           (case aR => repeat (first | exact (Kd.R_reads' HO367.out).2.2 | (with_reducible refine Kd.C_alloc ?_ _) | (with_reducible refine Kd.C_drewN ?_ _) | (with_reducible refine Kd.C_drew ?_)))
           (case aB => exact (qW HB.out))
           (case aF => exact (fun k_ hk => ⟨Kd.fresh' (Kd.R_lt (qR HO_16.out)) k_ hk, Kd.fresh' (Kd.R_lt (qR HO_346000.out)) k_ hk, Kd.fresh' (Kd.R_lt (qR HO_352000.out)) k_ hk, Kd.fresh' (Kd.R_lt (qR HO367.out)) k_ hk, Kd.fresh' (Kd.R_lt (qR HO374.out)) k_ hk⟩))
           (case aO => exact (qR (Kd.R_mono HO_15.out (fun _ hk => ⟨hk.1.1.1, ⟨hk.1.1.2.1, ⟨hk.1.1.2.2, ⟨hk.1.2, hk.2⟩⟩⟩⟩))))
           (case aS => exact (below_size (qW HB.out)))
           (case aL => have := LMc43.out; omega)
           intro v369 w54 ho hb hg hat
           (first | have HS0_ := cell_grown hg (hHeld) (fun e_ => ((HO_15.out.1 _ e_.symm).1.1.1) rfl) | have HS0_ := cell_grown hg (hHeld) (by first | exact (fun e_ => ((HO_15.out.1 _ e_.symm).1.1.1) rfl) | (rw [add_block]; exact (fun e_ => ((HO_15.out.1 _ e_.symm).1.1.1) rfl)) | (show some (Addr.add _ _).block ≠ _; rw [add_block]; exact (fun e_ => ((HO_15.out.1 _ e_.symm).1.1.1) rfl))) | have HS0_ := cell_grown hg (cell_unalloc (hHeld) (World.block_lt_of_cell? _ _ (hHeld))) (by first | exact (fun e_ => ((HO_15.out.1 _ e_.symm).1.1.1) rfl) | (rw [add_block]; exact (fun e_ => ((HO_15.out.1 _ e_.symm).1.1.1) rfl)) | (show some (Addr.add _ _).block ≠ _; rw [add_block]; exact (fun e_ => ((HO_15.out.1 _ e_.symm).1.1.1) rfl))))
           rw [← Ny368.out] at ho
           have n0_ := Aside0.mk (Kd.R_after (ok := (fun k_ => some k_ ≠ (.slice Ao20 t340.length co20 : Value).ownBlock ∧ some k_ ≠ (.slice Ao24 t346.length co24 : Value).ownBlock ∧ some k_ ≠ (.slice Ao55 y365.length co55 : Value).ownBlock ∧ some k_ ≠ (v373 : Value).ownBlock)) (qR (Kd.R_mono HO_16.out (fun _ hk => ⟨⟨hk.1.1.2.1, ⟨hk.1.1.2.2, ⟨hk.1.2, hk.2⟩⟩⟩, hk.1.1.1⟩))) hg hat)
           have n1_ := Aside0.mk (Kd.R_after (ok := (fun k_ => some k_ ≠ (.slice (some ad371) x16_2.length co48 : Value).ownBlock ∧ some k_ ≠ (.slice Ao24 t346.length co24 : Value).ownBlock ∧ some k_ ≠ (.slice Ao55 y365.length co55 : Value).ownBlock ∧ some k_ ≠ (v373 : Value).ownBlock)) (qR (Kd.R_mono HO_346000.out (fun _ hk => ⟨⟨hk.1.1.2.1, ⟨hk.1.1.2.2, ⟨hk.1.2, hk.2⟩⟩⟩, hk.1.1.1⟩))) hg hat)
           have n2_ := Aside0.mk (Kd.R_after (ok := (fun k_ => some k_ ≠ (.slice (some ad371) x16_2.length co48 : Value).ownBlock ∧ some k_ ≠ (.slice Ao20 t340.length co20 : Value).ownBlock ∧ some k_ ≠ (.slice Ao55 y365.length co55 : Value).ownBlock ∧ some k_ ≠ (v373 : Value).ownBlock)) (qR (Kd.R_mono HO_352000.out (fun _ hk => ⟨⟨hk.1.1.2.1, ⟨hk.1.1.2.2, ⟨hk.1.2, hk.2⟩⟩⟩, hk.1.1.1⟩))) hg hat)
           have n3_ := Aside0.mk (blk_grown (qB BK345.out) hg (Kd.R_ne HO_15.out BK345.out (by decide)))
           have n4_ := Aside0.mk (blk_grown (qB BK351.out) hg (Kd.R_ne HO_15.out BK351.out (by decide)))
           have n5_ := Aside0.mk (Kd.R_after (ok := (fun k_ => some k_ ≠ (.slice (some ad371) x16_2.length co48 : Value).ownBlock ∧ some k_ ≠ (.slice Ao20 t340.length co20 : Value).ownBlock ∧ some k_ ≠ (.slice Ao24 t346.length co24 : Value).ownBlock ∧ some k_ ≠ (v373 : Value).ownBlock)) (qR (Kd.R_mono HO367.out (fun _ hk => ⟨⟨hk.1.1.1.2, ⟨hk.1.1.2, ⟨hk.1.2, hk.2⟩⟩⟩, hk.1.1.1.1.2⟩))) hg hat)
           have n6_ := Aside0.mk (Kd.R_after (ok := (fun k_ => some k_ ≠ (.slice (some ad371) x16_2.length co48 : Value).ownBlock ∧ some k_ ≠ (.slice Ao20 t340.length co20 : Value).ownBlock ∧ some k_ ≠ (.slice Ao24 t346.length co24 : Value).ownBlock ∧ some k_ ≠ (.slice Ao55 y365.length co55 : Value).ownBlock)) (qR (Kd.R_mono HO374.out (fun _ hk => ⟨⟨hk.1.1.1.2, ⟨hk.1.1.2, ⟨hk.1.2, hk.2⟩⟩⟩, hk.1.1.1.1.2⟩))) hg hat)
           have n7_ := Aside0.mk (hb)
           have n8_ := Aside0.mk (ho)
           clear HO_16 HO_346000 HO_352000 BK345 BK351 HO367 HO374 HB HO_15
           have HO_16 := n0_
           have HO_346000 := n1_
           have HO_352000 := n2_
           have BK345 := n3_
           have BK351 := n4_
           have HO367 := n5_
           have HO374 := n6_
           have HB := n7_
           have HO370 := n8_
           clear n0_ n1_ n2_ n3_ n4_ n5_ n6_ n7_ n8_ ho hb hg hat
           refine hK.out _ _ (HS0_) (fun hHeld => ?_); clear hK K
           refine norm_ (a' := ?_) ?_ ?_; rotate_left
           ·show Act.put _ (some 94) _ = _
            simp only [Act.put, List.setIfInBounds_toArray, List.set_cons_zero, List.set_cons_succ, i64_w, i32_w]
            rfl
           exact norm_ (by simp only [putAll, Act.put, List.setIfInBounds_toArray, List.set_cons_zero, List.set_cons_succ]) (hCont (.slice Ao55 y365.length co55, v369, v373) _ ⟨hHeld, (qR (Kd.R_mono HO367.out (fun _ hk => ⟨hk.2, ⟨hk.1.2.2.2, ⟨hk.1.1, ⟨hk.1.2.1, hk.1.2.2.1⟩⟩⟩⟩))), (qR (Kd.R_mono HO370.out (fun _ hk => ⟨hk.2.2.2.1, ⟨hk.2.2.2.2, ⟨hk.1, ⟨hk.2.1, hk.2.2.1⟩⟩⟩⟩))), (qR (Kd.R_mono HO374.out (fun _ hk => ⟨hk.1.2.2.2, ⟨hk.2, ⟨hk.1.1, ⟨hk.1.2.1, hk.1.2.2.1⟩⟩⟩⟩))), (qR (Kd.R_mono HO_16.out (fun _ hk => ⟨hk.1.2.2.1, ⟨hk.2, ⟨hk.1.2.2.2, ⟨hk.1.1, hk.1.2.1⟩⟩⟩⟩))), (qR (Kd.R_mono HO_346000.out (fun _ hk => ⟨hk.1.2.2.1, ⟨hk.2, ⟨hk.1.2.2.2, ⟨hk.1.1, hk.1.2.1⟩⟩⟩⟩))), (qR (Kd.R_mono HO_352000.out (fun _ hk => ⟨hk.1.2.2.1, ⟨hk.2, ⟨hk.1.2.2.2, ⟨hk.1.1, hk.1.2.1⟩⟩⟩⟩))), (qB BK345.out), (qB BK351.out), (qW HB.out)⟩)
         ·skip
          refine Kd.R_lit_step (Kd.int .i64) _ 3 ?hg (N := 104) ?hd (xs := ([ji45] : List Int)) (inner := [.int .i64 ji45]) (ok := fun _ => True) (okp := fun _ => True) ?hr ?hp (fun _ hk => hk) trivial (Below.refl _ _) (Nat.le_refl _) (by simp) ?_; (case hd => rfl); (case hg => rfl); (case hr => first | (go_simp; done) | (go_simp; rfl)); (case hp => exact (Reps.one (show Kd.M (Kd.int .i64) _ _ _ ji45 [.int .i64 ji45] from rfl) (Reps.none _ _)))
          intro v373 w50 ho51 hb hg_ hnew_
          have HS0_ := (hb.cell (World.block_lt_of_cell? _ _ (hHeld))).trans (hHeld)
          clear hg_ hnew_
          (first | rw [← Ny372.out] at ho51 | (simp only [Int.reduceToNat] at ho51; rw [← Ny372.out] at ho51))
          have n0_ := Aside0.mk (Kd.R_elder' (qR HO_15.out) (Kd.R_base ho51) hb)
          have n1_ := Aside0.mk (Kd.R_elder' (qR HO_16.out) (Kd.R_base ho51) hb)
          have n2_ := Aside0.mk (Kd.R_elder' (qR HO_346000.out) (Kd.R_base ho51) hb)
          have n3_ := Aside0.mk (Kd.R_elder' (qR HO_352000.out) (Kd.R_base ho51) hb)
          have n4_ := Aside0.mk (Kd.R_lower (Kd.R_new' (Kd.R_new' (Kd.R_new' (Kd.R_new' ho51 (Kd.R_lt (qR HO_15.out))) (Kd.R_lt (qR HO_16.out))) (Kd.R_lt (qR HO_346000.out))) (Kd.R_lt (qR HO_352000.out))) (below_size (qW HB.out)))
          have n5_ := Aside0.mk (blk_below (qB BK345.out) hb)
          have n6_ := Aside0.mk (blk_below (qB BK351.out) hb)
          have n7_ := Aside0.mk (below_step (qW HB.out) hb)
          clear HO_15 HO_16 HO_346000 HO_352000 BK345 BK351 HB
          have HO_15 := n0_
          have HO_16 := n1_
          have HO_346000 := n2_
          have HO_352000 := n3_
          have HO374 := n4_
          have BK345 := n5_
          have BK351 := n6_
          have HB := n7_
          clear n0_ n1_ n2_ n3_ n4_ n5_ n6_ n7_ hb ho51
          refine hK.out _ _ (HS0_) (fun hHeld => ?_); clear hK K
          refine norm_ (a' := ?_) ?_ ?_; rotate_left
          ·show Act.put _ (some 104) _ = _
           simp only [Act.put, List.setIfInBounds_toArray, List.set_cons_zero, List.set_cons_succ, i64_w, i32_w]
           rfl
          refine one_ (i := 2) (N := some 93) #[true, true, true, false, true, true, true, true, true, true, true, true, true, true, false, false, false] rfl rfl (one_of HT_.out (by kernel_rfl)) (by decide) (fun K hK => ?_)
          refine Kd.R_lit_step (Kd.int .i64) _ 3 ?hg (N := 93) ?hd (xs := ([wrap64 ((rd x15_2 x65_2) + x18_36)] : List Int)) (inner := [.int .i64 (wrap64 ((rd x15_2 x65_2) + x18_36))]) (ok := fun _ => True) (okp := fun _ => True) ?hr ?hp (fun _ hk => hk) trivial (Below.refl _ _) (Nat.le_refl _) (by simp) ?_; (case hd => rfl); (case hg => rfl); (case hr => first | (go_simp; done) | (go_simp; rfl)); (case hp => exact (Reps.one (show Kd.M (Kd.int .i64) _ _ _ (wrap64 ((rd x15_2 x65_2) + x18_36)) [.int .i64 (wrap64 ((rd x15_2 x65_2) + x18_36))] from rfl) (Reps.none _ _)))
          intro v366 w52 ho53 hb hg_ hnew_
          have HS0_ := (hb.cell (World.block_lt_of_cell? _ _ (hHeld))).trans (hHeld)
          clear hg_ hnew_
          (first | rw [← Ny365.out] at ho53 | (simp only [Int.reduceToNat] at ho53; rw [← Ny365.out] at ho53))
          have n0_ := Aside0.mk (Kd.R_elder' (qR HO_15.out) (Kd.R_base ho53) hb)
          have n1_ := Aside0.mk (Kd.R_elder' (qR HO_16.out) (Kd.R_base ho53) hb)
          have n2_ := Aside0.mk (Kd.R_elder' (qR HO_346000.out) (Kd.R_base ho53) hb)
          have n3_ := Aside0.mk (Kd.R_elder' (qR HO_352000.out) (Kd.R_base ho53) hb)
          have n4_ := Aside0.mk (Kd.R_elder' (qR HO374.out) (Kd.R_base ho53) hb)
          have n5_ := Aside0.mk (Kd.R_lower (Kd.R_new' (Kd.R_new' (Kd.R_new' (Kd.R_new' (Kd.R_new' ho53 (Kd.R_lt (qR HO_15.out))) (Kd.R_lt (qR HO_16.out))) (Kd.R_lt (qR HO_346000.out))) (Kd.R_lt (qR HO_352000.out))) (Kd.R_lt (qR HO374.out))) (below_size (qW HB.out)))
          have n6_ := Aside0.mk (blk_below (qB BK345.out) hb)
          have n7_ := Aside0.mk (blk_below (qB BK351.out) hb)
          have n8_ := Aside0.mk (below_step (qW HB.out) hb)
          clear HO_15 HO_16 HO_346000 HO_352000 HO374 BK345 BK351 HB
          have HO_15 := n0_
          have HO_16 := n1_
          have HO_346000 := n2_
          have HO_352000 := n3_
          have HO374 := n4_
          have HO367 := n5_
          have BK345 := n6_
          have BK351 := n7_
          have HB := n8_
          clear n0_ n1_ n2_ n3_ n4_ n5_ n6_ n7_ n8_ hb ho53
          obtain ⟨Ao55, co55, eo55⟩ := Kd.R_slice HO367.out
          (first | subst eo55 | (injection eo55 with f1_ f2_ f3_; have f4_ := f1_.symm; have f5_ := f3_.symm; clear f1_ f2_ f3_; subst f4_; subst f5_))
          refine hK.out _ _ (HS0_) (fun hHeld => ?_); clear hK K
          refine norm_ (a' := ?_) ?_ ?_; rotate_left
          ·show Act.put _ (some 93) _ = _
           simp only [Act.put, List.setIfInBounds_toArray, List.set_cons_zero, List.set_cons_succ, i64_w, i32_w]
           rfl
          refine one_ (i := 3) (N := some 94) #[true, true, true, true, true, true, true, true, true, true, true, true, true, true, false, false, false] rfl rfl (one_of HT_.out (by kernel_rfl)) (by decide) (fun K hK => ?_)
          refine Kd.R_append_rows_step (Kd.int .i64) (w0 := w) w.heap.size (by rfl) (.tmp 91) (.tmp 93) 22 3 (.int .i64 0) 8 rfl Try.underlying22 info3 rfl (by decide) (by omega) (.slice (some ad364) x15_2.length co47) x15_2 y365 _ _ _ (fun k_ => some k_ ≠ (.slice (some ad371) x16_2.length co48 : Value).ownBlock ∧ some k_ ≠ (.slice Ao20 t340.length co20 : Value).ownBlock ∧ some k_ ≠ (.slice Ao24 t346.length co24 : Value).ownBlock ∧ some k_ ≠ (v373 : Value).ownBlock ∧ some k_ ≠ (.slice Ao55 y365.length co55 : Value).ownBlock) (fun _ => False) rfl rfl ?aO ?aR (fun _ _ h => h) (fun _ h => h.elim) ?aF ?aB ?aS ?aL ?_
          (case aR => repeat (first | exact (Kd.R_reads' HO367.out).2.2 | (with_reducible refine Kd.C_alloc ?_ _) | (with_reducible refine Kd.C_drewN ?_ _) | (with_reducible refine Kd.C_drew ?_)))
          (case aB => exact (qW HB.out))
          (case aF => exact (fun k_ hk => ⟨Kd.fresh' (Kd.R_lt (qR HO_16.out)) k_ hk, Kd.fresh' (Kd.R_lt (qR HO_346000.out)) k_ hk, Kd.fresh' (Kd.R_lt (qR HO_352000.out)) k_ hk, Kd.fresh' (Kd.R_lt (qR HO374.out)) k_ hk, Kd.fresh' (Kd.R_lt (qR HO367.out)) k_ hk⟩))
          (case aO => exact (qR (Kd.R_mono HO_15.out (fun _ hk => ⟨hk.1.1.1, ⟨hk.1.1.2.1, ⟨hk.1.1.2.2, ⟨hk.1.2, hk.2⟩⟩⟩⟩))))
          (case aS => exact (below_size (qW HB.out)))
          (case aL => have := LMc43.out; omega)
          intro v369 w54 ho hb hg hat
          (first | have HS0_ := cell_grown hg (hHeld) (fun e_ => ((HO_15.out.1 _ e_.symm).1.1.1) rfl) | have HS0_ := cell_grown hg (hHeld) (by first | exact (fun e_ => ((HO_15.out.1 _ e_.symm).1.1.1) rfl) | (rw [add_block]; exact (fun e_ => ((HO_15.out.1 _ e_.symm).1.1.1) rfl)) | (show some (Addr.add _ _).block ≠ _; rw [add_block]; exact (fun e_ => ((HO_15.out.1 _ e_.symm).1.1.1) rfl))) | have HS0_ := cell_grown hg (cell_unalloc (hHeld) (World.block_lt_of_cell? _ _ (hHeld))) (by first | exact (fun e_ => ((HO_15.out.1 _ e_.symm).1.1.1) rfl) | (rw [add_block]; exact (fun e_ => ((HO_15.out.1 _ e_.symm).1.1.1) rfl)) | (show some (Addr.add _ _).block ≠ _; rw [add_block]; exact (fun e_ => ((HO_15.out.1 _ e_.symm).1.1.1) rfl))))
          rw [← Ny368.out] at ho
          have n0_ := Aside0.mk (Kd.R_after (ok := (fun k_ => some k_ ≠ (.slice Ao20 t340.length co20 : Value).ownBlock ∧ some k_ ≠ (.slice Ao24 t346.length co24 : Value).ownBlock ∧ some k_ ≠ (v373 : Value).ownBlock ∧ some k_ ≠ (.slice Ao55 y365.length co55 : Value).ownBlock)) (qR (Kd.R_mono HO_16.out (fun _ hk => ⟨⟨hk.1.1.2.1, ⟨hk.1.1.2.2, ⟨hk.1.2, hk.2⟩⟩⟩, hk.1.1.1⟩))) hg hat)
          have n1_ := Aside0.mk (Kd.R_after (ok := (fun k_ => some k_ ≠ (.slice (some ad371) x16_2.length co48 : Value).ownBlock ∧ some k_ ≠ (.slice Ao24 t346.length co24 : Value).ownBlock ∧ some k_ ≠ (v373 : Value).ownBlock ∧ some k_ ≠ (.slice Ao55 y365.length co55 : Value).ownBlock)) (qR (Kd.R_mono HO_346000.out (fun _ hk => ⟨⟨hk.1.1.2.1, ⟨hk.1.1.2.2, ⟨hk.1.2, hk.2⟩⟩⟩, hk.1.1.1⟩))) hg hat)
          have n2_ := Aside0.mk (Kd.R_after (ok := (fun k_ => some k_ ≠ (.slice (some ad371) x16_2.length co48 : Value).ownBlock ∧ some k_ ≠ (.slice Ao20 t340.length co20 : Value).ownBlock ∧ some k_ ≠ (v373 : Value).ownBlock ∧ some k_ ≠ (.slice Ao55 y365.length co55 : Value).ownBlock)) (qR (Kd.R_mono HO_352000.out (fun _ hk => ⟨⟨hk.1.1.2.1, ⟨hk.1.1.2.2, ⟨hk.1.2, hk.2⟩⟩⟩, hk.1.1.1⟩))) hg hat)
          have n3_ := Aside0.mk (blk_grown (qB BK345.out) hg (Kd.R_ne HO_15.out BK345.out (by decide)))
          have n4_ := Aside0.mk (blk_grown (qB BK351.out) hg (Kd.R_ne HO_15.out BK351.out (by decide)))
          have n5_ := Aside0.mk (Kd.R_after (ok := (fun k_ => some k_ ≠ (.slice (some ad371) x16_2.length co48 : Value).ownBlock ∧ some k_ ≠ (.slice Ao20 t340.length co20 : Value).ownBlock ∧ some k_ ≠ (.slice Ao24 t346.length co24 : Value).ownBlock ∧ some k_ ≠ (.slice Ao55 y365.length co55 : Value).ownBlock)) (qR (Kd.R_mono HO374.out (fun _ hk => ⟨⟨hk.1.1.1.2, ⟨hk.1.1.2, ⟨hk.1.2, hk.2⟩⟩⟩, hk.1.1.1.1.2⟩))) hg hat)
          have n6_ := Aside0.mk (Kd.R_after (ok := (fun k_ => some k_ ≠ (.slice (some ad371) x16_2.length co48 : Value).ownBlock ∧ some k_ ≠ (.slice Ao20 t340.length co20 : Value).ownBlock ∧ some k_ ≠ (.slice Ao24 t346.length co24 : Value).ownBlock ∧ some k_ ≠ (v373 : Value).ownBlock)) (qR (Kd.R_mono HO367.out (fun _ hk => ⟨⟨hk.1.1.1.2, ⟨hk.1.1.2, ⟨hk.1.2, hk.2⟩⟩⟩, hk.1.1.1.1.2⟩))) hg hat)
          have n7_ := Aside0.mk (hb)
          have n8_ := Aside0.mk (ho)
          clear HO_16 HO_346000 HO_352000 BK345 BK351 HO374 HO367 HB HO_15
          have HO_16 := n0_
          have HO_346000 := n1_
          have HO_352000 := n2_
          have BK345 := n3_
          have BK351 := n4_
          have HO374 := n5_
          have HO367 := n6_
          have HB := n7_
          have HO370 := n8_
          clear n0_ n1_ n2_ n3_ n4_ n5_ n6_ n7_ n8_ ho hb hg hat
          refine hK.out _ _ (HS0_) (fun hHeld => ?_); clear hK K
          refine norm_ (a' := ?_) ?_ ?_; rotate_left
          ·show Act.put _ (some 94) _ = _
           simp only [Act.put, List.setIfInBounds_toArray, List.set_cons_zero, List.set_cons_succ, i64_w, i32_w]
           rfl
          exact norm_ (by simp only [putAll, Act.put, List.setIfInBounds_toArray, List.set_cons_zero, List.set_cons_succ]) (hCont (.slice Ao55 y365.length co55, v369, v373) _ ⟨hHeld, (qR (Kd.R_mono HO367.out (fun _ hk => ⟨hk.2, ⟨hk.1.2.2.2, ⟨hk.1.1, ⟨hk.1.2.1, hk.1.2.2.1⟩⟩⟩⟩))), (qR (Kd.R_mono HO370.out (fun _ hk => ⟨hk.2.2.2.2, ⟨hk.2.2.2.1, ⟨hk.1, ⟨hk.2.1, hk.2.2.1⟩⟩⟩⟩))), (qR (Kd.R_mono HO374.out (fun _ hk => ⟨hk.1.2.2.2, ⟨hk.2, ⟨hk.1.1, ⟨hk.1.2.1, hk.1.2.2.1⟩⟩⟩⟩))), (qR (Kd.R_mono HO_16.out (fun _ hk => ⟨hk.1.2.2.2, ⟨hk.2, ⟨hk.1.2.2.1, ⟨hk.1.1, hk.1.2.1⟩⟩⟩⟩))), (qR (Kd.R_mono HO_346000.out (fun _ hk => ⟨hk.1.2.2.2, ⟨hk.2, ⟨hk.1.2.2.1, ⟨hk.1.1, hk.1.2.1⟩⟩⟩⟩))), (qR (Kd.R_mono HO_352000.out (fun _ hk => ⟨hk.1.2.2.2, ⟨hk.2, ⟨hk.1.2.2.1, ⟨hk.1.1, hk.1.2.1⟩⟩⟩⟩))), (qB BK345.out), (qB BK351.out), (qW HB.out)⟩)
        rintro ⟨v366, v369, v373⟩ w56 ⟨hS_, h0_, h1_, h2_, h3_, h4_, h5_, h6_, h7_, h8_⟩
        have n0_ : Aside0 (Kd.R (Kd.int .i64) 3 w56 w.heap.size (fun k_ => some k_ ≠ (v369 : Value).ownBlock ∧ some k_ ≠ (v373 : Value).ownBlock ∧ some k_ ≠ (.slice (some ad371) x16_2.length co48 : Value).ownBlock ∧ some k_ ≠ (.slice Ao20 t340.length co20 : Value).ownBlock ∧ some k_ ≠ (.slice Ao24 t346.length co24 : Value).ownBlock) v366 y365) := ⟨h0_⟩
        have n1_ : Aside0 (Kd.R (Kd.int .i64) 3 w56 w.heap.size (fun k_ => some k_ ≠ (v366 : Value).ownBlock ∧ some k_ ≠ (v373 : Value).ownBlock ∧ some k_ ≠ (.slice (some ad371) x16_2.length co48 : Value).ownBlock ∧ some k_ ≠ (.slice Ao20 t340.length co20 : Value).ownBlock ∧ some k_ ≠ (.slice Ao24 t346.length co24 : Value).ownBlock) v369 y368) := ⟨h1_⟩
        have n2_ : Aside0 (Kd.R (Kd.int .i64) 3 w56 w.heap.size (fun k_ => some k_ ≠ (v366 : Value).ownBlock ∧ some k_ ≠ (v369 : Value).ownBlock ∧ some k_ ≠ (.slice (some ad371) x16_2.length co48 : Value).ownBlock ∧ some k_ ≠ (.slice Ao20 t340.length co20 : Value).ownBlock ∧ some k_ ≠ (.slice Ao24 t346.length co24 : Value).ownBlock) v373 y372) := ⟨h2_⟩
        have n3_ : Aside0 (Kd.R (Kd.int .i64) 3 w56 w.heap.size (fun k_ => some k_ ≠ (v366 : Value).ownBlock ∧ some k_ ≠ (v369 : Value).ownBlock ∧ some k_ ≠ (v373 : Value).ownBlock ∧ some k_ ≠ (.slice Ao20 t340.length co20 : Value).ownBlock ∧ some k_ ≠ (.slice Ao24 t346.length co24 : Value).ownBlock) (.slice (some ad371) x16_2.length co48) x16_2) := ⟨h3_⟩
        have n4_ : Aside0 (Kd.R (Kd.int .i64) 3 w56 w.heap.size (fun k_ => some k_ ≠ (v366 : Value).ownBlock ∧ some k_ ≠ (v369 : Value).ownBlock ∧ some k_ ≠ (v373 : Value).ownBlock ∧ some k_ ≠ (.slice (some ad371) x16_2.length co48 : Value).ownBlock ∧ some k_ ≠ (.slice Ao24 t346.length co24 : Value).ownBlock) (.slice Ao20 t340.length co20) t340) := ⟨h4_⟩
        have n5_ : Aside0 (Kd.R (Kd.int .i64) 3 w56 w.heap.size (fun k_ => some k_ ≠ (v366 : Value).ownBlock ∧ some k_ ≠ (v369 : Value).ownBlock ∧ some k_ ≠ (v373 : Value).ownBlock ∧ some k_ ≠ (.slice (some ad371) x16_2.length co48 : Value).ownBlock ∧ some k_ ≠ (.slice Ao20 t340.length co20 : Value).ownBlock) (.slice Ao24 t346.length co24) t346) := ⟨h5_⟩
        have n6_ : Aside0 (w56.heap[gb345]? = some (.cells #[.slice Ao20 t340.length co20, .int .i64 t343] 24 (0, 0))) := ⟨h6_⟩
        have n7_ : Aside0 (w56.heap[gb351]? = some (.cells #[.slice Ao24 t346.length co24, .int .i64 t349] 24 (0, 0))) := ⟨h7_⟩
        have n8_ : Aside0 (Below w.heap.size w w56) := ⟨h8_⟩
        clear HO_15 HO_16 HO_346000 HO_352000 BK345 BK351 HB h0_ h1_ h2_ h3_ h4_ h5_ h6_ h7_ h8_
        have HO367 := n0_
        have HO370 := n1_
        have HO374 := n2_
        have HO_16 := n3_
        have HO_346000 := n4_
        have HO_352000 := n5_
        have BK345 := n6_
        have BK351 := n7_
        have HB := n8_
        clear n0_ n1_ n2_ n3_ n4_ n5_ n6_ n7_ n8_
        have hHeld : w56.cell? (ad371.add (x65_2).toNat) = some (.int .i64 (rd x16_2 x65_2)) := hS_
        obtain ⟨Ao58, co58, eo58⟩ := Kd.R_slice HO374.out
        (first | subst eo58 | (injection eo58 with f1_ f2_ f3_; have f4_ := f1_.symm; have f5_ := f3_.symm; clear f1_ f2_ f3_; subst f4_; subst f5_))
        refine norm_ (a' := ?_) ?_ ?_; rotate_left
        ·simp only [putAll, Act.put, List.setIfInBounds_toArray, List.set_cons_zero, List.set_cons_succ]
         rfl
        refine last_ (i := 14) (N := some 105) #[true, true, true, true, true, true, true, true, true, true, true, true, true, true, true, false, false] rfl rfl (one_of HT_.out (by kernel_rfl)) (by decide) (fun K hK => ?_)
        refine Kd.R_append_rows_step (Kd.int .i64) (w0 := w) w.heap.size (by rfl) (.tmp 95) (.tmp 104) 22 3 (.int .i64 0) 8 rfl Try.underlying22 info3 rfl (by decide) (by omega) (.slice (some ad371) x16_2.length co48) x16_2 y372 _ _ _ (fun k_ => some k_ ≠ (.slice Ao20 t340.length co20 : Value).ownBlock ∧ some k_ ≠ (.slice Ao24 t346.length co24 : Value).ownBlock ∧ some k_ ≠ (v366 : Value).ownBlock ∧ some k_ ≠ (v369 : Value).ownBlock ∧ some k_ ≠ (.slice Ao58 y372.length co58 : Value).ownBlock) (fun _ => False) rfl rfl ?aO ?aR (fun _ _ h => h) (fun _ h => h.elim) ?aF ?aB ?aS ?aL ?_
        (case aR => repeat (first | exact (Kd.R_reads' HO374.out).2.2 | (with_reducible refine Kd.C_alloc ?_ _) | (with_reducible refine Kd.C_drewN ?_ _) | (with_reducible refine Kd.C_drew ?_)))
        (case aB => exact (qW HB.out))
        (case aF => exact (fun k_ hk => ⟨Kd.fresh' (Kd.R_lt (qR HO_346000.out)) k_ hk, Kd.fresh' (Kd.R_lt (qR HO_352000.out)) k_ hk, Kd.fresh' (Kd.R_lt (qR HO367.out)) k_ hk, Kd.fresh' (Kd.R_lt (qR HO370.out)) k_ hk, Kd.fresh' (Kd.R_lt (qR HO374.out)) k_ hk⟩))
        (case aO => exact (qR (Kd.R_mono HO_16.out (fun _ hk => ⟨hk.2.2.2.1, ⟨hk.2.2.2.2, ⟨hk.1, ⟨hk.2.1, hk.2.2.1⟩⟩⟩⟩))))
        (case aS => exact (below_size (qW HB.out)))
        (case aL => have := LMc46.out; omega)
        intro v376 w57 ho hb hg hat
        rw [← Ny375.out] at ho
        have n0_ := Aside0.mk (Kd.R_after (ok := (fun k_ => some k_ ≠ (.slice Ao24 t346.length co24 : Value).ownBlock ∧ some k_ ≠ (v366 : Value).ownBlock ∧ some k_ ≠ (v369 : Value).ownBlock ∧ some k_ ≠ (.slice Ao58 y372.length co58 : Value).ownBlock)) (qR (Kd.R_mono HO_346000.out (fun _ hk => ⟨⟨hk.2.2.2.2, ⟨hk.1, ⟨hk.2.1, hk.2.2.1⟩⟩⟩, hk.2.2.2.1⟩))) hg hat)
        have n1_ := Aside0.mk (Kd.R_after (ok := (fun k_ => some k_ ≠ (.slice Ao20 t340.length co20 : Value).ownBlock ∧ some k_ ≠ (v366 : Value).ownBlock ∧ some k_ ≠ (v369 : Value).ownBlock ∧ some k_ ≠ (.slice Ao58 y372.length co58 : Value).ownBlock)) (qR (Kd.R_mono HO_352000.out (fun _ hk => ⟨⟨hk.2.2.2.2, ⟨hk.1, ⟨hk.2.1, hk.2.2.1⟩⟩⟩, hk.2.2.2.1⟩))) hg hat)
        have n2_ := Aside0.mk (blk_grown (qB BK345.out) hg (Kd.R_ne HO_16.out BK345.out (by decide)))
        have n3_ := Aside0.mk (blk_grown (qB BK351.out) hg (Kd.R_ne HO_16.out BK351.out (by decide)))
        have n4_ := Aside0.mk (Kd.R_after (ok := (fun k_ => some k_ ≠ (.slice Ao20 t340.length co20 : Value).ownBlock ∧ some k_ ≠ (.slice Ao24 t346.length co24 : Value).ownBlock ∧ some k_ ≠ (v369 : Value).ownBlock ∧ some k_ ≠ (.slice Ao58 y372.length co58 : Value).ownBlock)) (qR (Kd.R_mono HO367.out (fun _ hk => ⟨⟨hk.2.2.2.1, ⟨hk.2.2.2.2, ⟨hk.1, hk.2.1⟩⟩⟩, hk.2.2.1⟩))) hg hat)
        have n5_ := Aside0.mk (Kd.R_after (ok := (fun k_ => some k_ ≠ (.slice Ao20 t340.length co20 : Value).ownBlock ∧ some k_ ≠ (.slice Ao24 t346.length co24 : Value).ownBlock ∧ some k_ ≠ (v366 : Value).ownBlock ∧ some k_ ≠ (.slice Ao58 y372.length co58 : Value).ownBlock)) (qR (Kd.R_mono HO370.out (fun _ hk => ⟨⟨hk.2.2.2.1, ⟨hk.2.2.2.2, ⟨hk.1, hk.2.1⟩⟩⟩, hk.2.2.1⟩))) hg hat)
        have n6_ := Aside0.mk (Kd.R_after (ok := (fun k_ => some k_ ≠ (.slice Ao20 t340.length co20 : Value).ownBlock ∧ some k_ ≠ (.slice Ao24 t346.length co24 : Value).ownBlock ∧ some k_ ≠ (v366 : Value).ownBlock ∧ some k_ ≠ (v369 : Value).ownBlock)) (qR (Kd.R_mono HO374.out (fun _ hk => ⟨⟨hk.2.2.2.1, ⟨hk.2.2.2.2, ⟨hk.1, hk.2.1⟩⟩⟩, hk.2.2.1⟩))) hg hat)
        have n7_ := Aside0.mk (hb)
        have n8_ := Aside0.mk (ho)
        clear HO_346000 HO_352000 BK345 BK351 HO367 HO370 HO374 HB HO_16
        have HO_346000 := n0_
        have HO_352000 := n1_
        have BK345 := n2_
        have BK351 := n3_
        have HO367 := n4_
        have HO370 := n5_
        have HO374 := n6_
        have HB := n7_
        have HO377 := n8_
        clear n0_ n1_ n2_ n3_ n4_ n5_ n6_ n7_ n8_ ho hb hg hat
        refine hK.out _ _ ?_; clear hK K
        refine norm_ (a' := ?_) ?_ ?_; rotate_left
        ·show Act.put _ (some 105) _ = _
         simp only [Act.put, List.setIfInBounds_toArray, List.set_cons_zero, List.set_cons_succ, i64_w, i32_w]
         rfl
        refine pS (i := 15) (N := some 15) #[true, true, true, true, true, true, true, true, true, true, true, true, true, true, true, true, false] rfl rfl HT_.out ?_
        refine pS (i := 16) (N := some 16) #[true, true, true, true, true, true, true, true, true, true, true, true, true, true, true, true, true] rfl rfl HT_.out ?_
        refine done_ (done_of HT_.out (by kernel_rfl)) ?_
        try go_wp2
        go_roundg kj36
        case measure => have := HJ3.out; have := HK2.out; have := HJ36.out; omega
        case rel => exact ⟨(y368), (y375), (wrap64 (x65_2 + 1)), (by first | rfl | (simp; done) | (simp [*]; done)), H', ⟨by have := HJ3.out; have := HK2.out; have := HJ36.out; omega⟩, ⟨by exact qR (Kd.R_mono HO370.out (fun _ hk => ⟨hk.2, ⟨hk.1.1, hk.1.2.1⟩⟩))⟩, ⟨by exact qR (Kd.R_mono HO377.out (fun _ hk => ⟨hk.2.2.2.1, ⟨hk.1, hk.2.1⟩⟩))⟩, ⟨by exact qR (Kd.R_mono HO_346000.out (fun _ hk => ⟨hk.1.2.2.1, ⟨hk.2, hk.1.1⟩⟩))⟩, ⟨by exact qR (Kd.R_mono HO_352000.out (fun _ hk => ⟨hk.1.2.2.1, ⟨hk.2, hk.1.1⟩⟩))⟩, ⟨by exact qB BK345.out⟩, ⟨by exact qB BK351.out⟩, ⟨by repeat (first | (with_reducible first | exact HB.out | apply below_alloc | apply pw_below_drewN | apply below_drew1 | refine below_set ?_ GE345.out | refine below_set ?_ GE351.out) | exact HB.out)⟩⟩
/-- THE ONE PURE STATEMENT of standbylaw55_CurveQueues: yours. -/
def standbylaw55_CurveQueues.Pure : Prop := ∀ (l0 : List Int) (l1 : List Int) (a2 : Int), l0.length ≤ maxLen → l0.length * 8 ≤ 140737488351232 → (∀ x ∈ l0, (Lit.int .i64 x).wf = true) → l1.length ≤ maxLen → l1.length * 8 ≤ 140737488351232 → (∀ x ∈ l1, (Lit.int .i64 x).wf = true) → (Lit.int .i64 a2).wf = true → ∃ k, standbylaw55_CurveQueues.f k l0 l1 a2 = some true
theorem standbylaw55_CurveQueues.walk (P : standbylaw55_CurveQueues.Pure) (a0 : Option Addr) (len0 cap0 : Nat) (z0 : List Int) (a1 : Option Addr) (len1 cap1 : Nat) (z1 : List Int) (a2 : Int) (w : World) (w0 : (a0 = none ∧ len0 = 0 ∧ cap0 = 0 ∧ z0 = []) ∨ ∃ x, a0 = some x ∧ len0 ≤ cap0 ∧ cap0 ≤ maxLen ∧ z0.length = cap0 ∧ (∀ i, i < z0.length → w.cell? (x.add i) = some (.int .i64 (z0.getD i 0))) ∧ ∀ n ∈ z0, (Lit.int .i64 n).wf = true) (y0 : len0 * 8 ≤ 140737488351232) (w1 : (a1 = none ∧ len1 = 0 ∧ cap1 = 0 ∧ z1 = []) ∨ ∃ x, a1 = some x ∧ len1 ≤ cap1 ∧ cap1 ≤ maxLen ∧ z1.length = cap1 ∧ (∀ i, i < z1.length → w.cell? (x.add i) = some (.int .i64 (z1.getD i 0))) ∧ ∀ n ∈ z1, (Lit.int .i64 n).wf = true) (y1 : len1 * 8 ≤ 140737488351232) (w2 : (Lit.int .i64 a2).wf = true) :
  Calls Try.prog 7 #[.slice a0 len0 cap0, .slice a1 len1 cap1, .int .i64 a2] w fun e w' => e = .returned (.bool true) ∧ Below w.heap.size w w' := by
 obtain ⟨l0, rfl, hr0, hm0, hw0, hc0⟩ := ReadsInt.ofRowC w0
 obtain ⟨l1, rfl, hr1, hm1, hw1, hc1⟩ := ReadsInt.ofRowC w1
 obtain ⟨k, h⟩ := P l0 l1 a2 hm0 y0 hw0 hm1 y1 hw1 w2
 refine (standbylaw55_CurveQueues.calls k _ _ l0 _ _ l1 a2 true w (Kd.C_of_reads (d := (0 : Int)) (h1 := fun _ => rfl) hr0) hc0 (Kd.C_of_reads (d := (0 : Int)) (h1 := fun _ => rfl) hr1) hc1 h).mono ?_
 rintro e w' ⟨rfl, hd⟩
 exact ⟨rfl, hd⟩

end Go.Proofs.Ytanlonngekgibaa.Pr

-- Written by pp.py, a program of this session, over the translation of the given program; a machine's text: Lean checks it.
import Derived.Test.YtanlonngekgibaaGShort
import Derived.Test.YtanlonngekgibaaF11
import Derived.Test.YtanlonngekgibaaF13
import Derived.Test.YtanlonngekgibaaF15
import Derived.Test.YtanlonngekgibaaF16
import Derived.Test.YtanlonngekgibaaF17
import Derived.Test.YtanlonngekgibaaF18
import Derived.Test.YtanlonngekgibaaF19
import Derived.Test.YtanlonngekgibaaF20
import Derived.Test.YtanlonngekgibaaGWin
namespace Go.Proofs.Ytanlonngekgibaa.Pr
open Go.RowKit Go.Proofs.YtanlonngekgibaaW.PrintWords Go.Proofs.YtanlonngekgibaaW.PrintLast Go.Proofs.YtanlonngekgibaaW.PrintMore
attribute [local go_sem] max2_int min2_int max_two min_two max_three min_three max_four min_four   -- for this text's walks alone
set_option linter.unusedVariables false
set_option linter.unusedSimpArgs false

/-! ### standbylaw55_CurveMakes: function 3 -/
def standbylaw55_CurveMakes.j0 : Nat → List Int → Bool → List Int → Int → Int → Int → Option (Bool)
 | 0, _, _, _, _, _, _ => none
 | k + 1, x1, x23, x231000, x231001, x232000, x232001 => if x23 = true then ((standbylaw55_awake.f k).bind fun t233 => (some t233)) else ((curve_Arrival.f x1 x232000).bind fun bt234 => ((standbyref55_Arrival.f k x1 x232000).bind fun bt240 => ((curve_Service.f x1 x232000).bind fun bt246 => ((standbyref55_Service.f k x1 x232000).bind fun bt252 => ((curve_Check.f k x231000 x231001).bind fun t258 => ((standbyref55_Check.f k x231000 x231001).bind fun t259 => (if t258 = t259 then ((curve_At.f k x231000 x231001 x232001).bind fun t260 => ((standbyref55_At.f k x231000 x231001 x232001).bind fun t261 => (if t260 = t261 then ((standbyref55_Same.f k bt234.1 bt234.2.1 bt240.1 bt240.2.1).bind fun t262 => (if t262 = true then (if bt234.2.2 = bt240.2.2 then ((standbyref55_Same.f k bt246.1 bt246.2.1 bt252.1 bt252.2.1).bind fun t263 => (if t263 = true then (if bt246.2.2 = bt252.2.2 then ((standbylaw55_awake.f k).bind fun t264 => (some t264)) else (none)) else (none))) else (none)) else (none))) else (none)))) else (none))))))))
def standbylaw55_CurveMakes.f (k : Nat) (l0_0 : List Int) (a0_1 : Int) (l1 : List Int) (a2_0 : Int) (a2_1 : Int) : Option (Bool) := if (l0_0.length : Int) > 100 then (standbylaw55_CurveMakes.j0 k l1 true l0_0 a0_1 a2_0 a2_1) else (standbylaw55_CurveMakes.j0 k l1 (decide ((l1.length : Int) > 40)) l0_0 a0_1 a2_0 a2_1)
def standbylaw55_CurveMakes.T7 : Bool × List (List Nat × List Nat) := (true, [([], []), ([0], [0]), ([], []), ([2, 1], [2]), ([1, 3], [1, 3]), ([4, 3], [4]), ([5], [5]), ([5], [5]), ([7, 5], [5, 7]), ([6, 8, 5, 5], [5, 6, 8]), ([5], [5]), ([5], [5]), ([11, 5], [5, 11]), ([10, 12, 9, 5], [5, 10, 12]), ([9, 13, 5], [5, 9, 13]), ([5, 14], [5, 14]), ([15, 13], [15]), ([16], [16]), ([16], [16]), ([17, 18, 16, 16], [16, 17, 18]), ([16, 19], [16, 19]), ([20, 19], [20]), ([21], [21]), ([21], [21]), ([22, 23, 21], [21, 22, 23]), ([21, 24], [21, 24]), ([25, 21], [25]), ([26], [26]), ([26], [26]), ([27, 28, 26, 26], [26, 27, 28]), ([26, 29], [26, 29]), ([30, 29], [30]), ([31], [31]), ([31], [31]), ([32, 33, 31], [31, 32, 33]), ([31, 34], [31, 34]), ([35, 31], [35]), ([36, 36], [36]), ([36, 37], [36, 37]), ([38, 37, 0, 1, 2, 3, 4, 5, 6, 7, 8, 9, 10, 11, 12, 13, 14, 15, 16, 17, 18, 19, 20, 21, 22, 23, 24, 25, 26, 27, 28, 29, 30, 31, 32, 33, 34, 35, 36, 37, 38], [38])])
def standbylaw55_CurveMakes.B7 : List Nat := [0, 1, 0, 7, 15, 31, 63, 63, 191, 511, 63, 63, 2111, 8191, 16383, 32767, 65535, 131071, 131071, 524287, 1048575, 2097151, 4194303, 4194303, 16777215, 33554431, 67108863, 134217727, 134217727, 536870911, 1073741823, 2147483647, 4294967295, 4294967295, 17179869183, 34359738367, 68719476735, 137438953471, 274877906943, 549755813887]
theorem standbylaw55_CurveMakes.tab7 : rtab .any (opsOf Try.f3 7) = standbylaw55_CurveMakes.T7 := by kernel_rfl
theorem standbylaw55_CurveMakes.bits7 : waitsOk standbylaw55_CurveMakes.T7.2 standbylaw55_CurveMakes.B7 = true := by kernel_rfl
set_option maxHeartbeats 8000000 in
set_option maxRecDepth 100000 in
theorem standbylaw55_CurveMakes.calls (k : Nat) (A0_0 : Option Addr) (c0_0 : Nat) (l0_0 : List Int) (a0_1 : Int) (A1 : Option Addr) (c1 : Nat) (l1 : List Int) (a2_0 : Int) (a2_1 : Int) (r : Bool) (w : World) (hr0_0 : Kd.C (Kd.int .i64) w A0_0 l0_0.length l0_0) (hc0_0 : l0_0.length ≤ c0_0) (hr1 : Kd.C (Kd.int .i64) w A1 l1.length l1) (hc1 : l1.length ≤ c1) (h : standbylaw55_CurveMakes.f k l0_0 a0_1 l1 a2_0 a2_1 = some r) :
  Calls Try.prog 3 #[.agg #[.slice A0_0 l0_0.length c0_0, .int .i64 a0_1], .slice A1 l1.length c1, .agg #[.int .i64 a2_0, .int .i64 a2_1]] w fun e w' => e = .returned (.bool r) ∧ Below w.heap.size w w' := by
 have hu24 := Try.underlying24
 have hu25 := Try.underlying25
 have HR0_0 := Aside0.mk hr0_0
 have HC0_0 := Aside0.mk hc0_0
 clear hr0_0 hc0_0
 have HR1 := Aside0.mk hr1
 have HC1 := Aside0.mk hc1
 clear hr1 hc1
 have HB := Aside0.mk (Below.refl w.heap.size w)
 have H : (if (l0_0.length : Int) > 100 then (standbylaw55_CurveMakes.j0 k l1 true l0_0 a0_1 a2_0 a2_1) else (standbylaw55_CurveMakes.j0 k l1 (decide ((l1.length : Int) > 40)) l0_0 a0_1 a2_0 a2_1)) = some r := h
 clear h
 have HC4 := Aside0.mk H
 clear H
 go_enter Try.func3, Try.ntmps3
 go_upto_region 1 with (first | ((with_reducible refine gate_dst (N := 3) rfl ?_); (try (refine gate_guard (by rfl) ?_; dsimp only)); refine box_event ?hg (N := 3) ?hd (cs := #[.slice A0_0 l0_0.length c0_0, .int .i64 a0_1]) (t := 24) ?hr ?_; (case hd => rfl); (case hg => rfl); (case hr => first | (go_simp; done) | (go_simp; rfl)); intro gb230 hg w5 hbox hb; have n0_ := Aside0.mk (below_step (qW HB.out) hb); have n1_ := Aside0.mk (hbox); have n2_ := Aside0.mk ((by rw [hg]; exact (below_size (qW HB.out)) : w.heap.size ≤ gb230)); have n3_ := Aside0.mk ((by rw [hg]; exact (below_size (qW HB.out)) : w.heap.size ≤ gb230)); clear HB; have HB := n0_; have BK230 := n1_; have GW230 := n2_; have GE230 := n3_; clear n0_ n1_ n2_ n3_ hb hbox hg) | ((with_reducible refine gate_dst (N := 5) rfl ?_); (try (refine gate_guard (by rfl) ?_; dsimp only)); refine box_event ?hg (N := 5) ?hd (cs := #[.int .i64 a2_0, .int .i64 a2_1]) (t := 25) ?hr ?_; (case hd => rfl); (case hg => rfl); (case hr => first | (go_simp; done) | (go_simp; rfl)); intro gb231 hg w6 hbox hb; have n0_ := Aside0.mk (blk_below (qB BK230.out) hb); have n1_ := Aside0.mk (below_step (qW HB.out) hb); have n2_ := Aside0.mk (hbox); have n3_ := Aside0.mk ((by rw [hg]; exact (below_size (qW HB.out)) : w.heap.size ≤ gb231)); have n4_ := Aside0.mk ((by rw [hg]; exact (below_size (qW HB.out)) : w.heap.size ≤ gb231)); have n5_ := Aside0.mk ((by rw [hg]; exact Nat.ne_of_lt (blk_lt (qB BK230.out)) : gb230 ≠ gb231)); have n6_ := Aside0.mk ((by rw [hg]; exact Nat.ne_of_gt (blk_lt (qB BK230.out)) : gb231 ≠ gb230)); clear BK230 HB; have BK230 := n0_; have HB := n1_; have BK231 := n2_; have GW231 := n3_; have GE231 := n4_; have NB230_231 := n5_; have NB231_230 := n6_; clear n0_ n1_ n2_ n3_ n4_ n5_ n6_ hb hbox hg))
 (try simp only [Act.put, List.setIfInBounds_toArray, List.set_cons_zero, List.set_cons_succ])
 go_cut [23] (fun v23 wc => ∃ (kq : Nat) (x23_3 : Bool), v23 = .bool x23_3 ∧ Aside0 (standbylaw55_CurveMakes.j0 kq l1 x23_3 l0_0 a0_1 a2_0 a2_1 = some r) ∧ Aside0 (kq ≤ k) ∧ Aside0 (wc.heap[gb230]? = some (.cells #[(.slice A0_0 l0_0.length c0_0), .int .i64 a0_1] 24 (0, 0))) ∧ Aside0 (wc.heap[gb231]? = some (.cells #[.int .i64 a2_0, .int .i64 a2_1] 25 (0, 0))) ∧ Aside0 (Below w.heap.size w wc))
 case first =>
  have H := HC4.out
  clear HC4
  by_cases c7 : (l0_0.length : Int) > 100
  ·rw [if_pos c7] at H
   have c7b0 : decide (100 < (l0_0.length : Int)) = true := decide_eq_true c7
   have c7b1 : decide (100 < l0_0.length) = true := decide_eq_true (by omega)
   clear c7
   (first | rw [c7b0] | (simp only [i64_w, i32_w]; rw [c7b0]) | skip)
   have H' := Aside0.mk H
   clear H
   have hnb8 := NB230_231.out
   have hnc8 := NB231_230.out
   have hcz9_0 : w6.cell? ⟨gb230, 0, none⟩ = some (.slice A0_0 l0_0.length c0_0) := (blk_cell BK230.out 0).trans rfl
   have hcz9_1 : w6.cell? ⟨gb230, 1, none⟩ = some (.int .i64 a0_1) := (blk_cell BK230.out 1).trans rfl
   have hfz9_0 := blk_frozen BK230.out 0
   have hfz9_1 := blk_frozen BK230.out 1
   go_wp2
   go_meet
   case rel => exact ⟨_, (true), (by first | rfl | (simp; done) | (simp [*]; done)), H', ⟨by first | omega | exact Nat.le_refl _⟩, ⟨by exact qB BK230.out⟩, ⟨by exact qB BK231.out⟩, ⟨by repeat (first | (with_reducible first | exact HB.out | apply below_alloc | apply pw_below_drewN | apply below_drew1 | refine below_set ?_ GE230.out | refine below_set ?_ GE231.out) | exact HB.out)⟩⟩
  ·rw [if_neg c7] at H
   have c7b0 : decide (100 < (l0_0.length : Int)) = false := decide_eq_false c7
   have c7b1 : decide (100 < l0_0.length) = false := decide_eq_false (by omega)
   clear c7
   (first | rw [c7b0] | (simp only [i64_w, i32_w]; rw [c7b0]) | skip)
   have H' := Aside0.mk H
   clear H
   have hnb10 := NB230_231.out
   have hnc10 := NB231_230.out
   have hcz11_0 : w6.cell? ⟨gb230, 0, none⟩ = some (.slice A0_0 l0_0.length c0_0) := (blk_cell BK230.out 0).trans rfl
   have hcz11_1 : w6.cell? ⟨gb230, 1, none⟩ = some (.int .i64 a0_1) := (blk_cell BK230.out 1).trans rfl
   have hfz11_0 := blk_frozen BK230.out 0
   have hfz11_1 := blk_frozen BK230.out 1
   go_wp2
   go_meet
   case rel => exact ⟨_, (decide ((l1.length : Int) > 40)), (by first | rfl | (simp; done) | (simp [*]; done)), H', ⟨by first | omega | exact Nat.le_refl _⟩, ⟨by exact qB BK230.out⟩, ⟨by exact qB BK231.out⟩, ⟨by repeat (first | (with_reducible first | exact HB.out | apply below_alloc | apply pw_below_drewN | apply below_drew1 | refine below_set ?_ GE230.out | refine below_set ?_ GE231.out) | exact HB.out)⟩⟩
 case rest =>
  clear HC4
  try clear c1
  try clear p2
  try clear c3
  try clear c7
  try clear c7b0
  try clear c7b1
  try clear c8
  try clear c10
  try clear hcz11_0
  try clear hcz11_1
  try clear hcz9_0
  try clear hcz9_1
  try clear hfz11_0
  try clear hfz11_1
  try clear hfz9_0
  try clear hfz9_1
  obtain ⟨kq, x23_3, rfl, HA, HJ3, BK230, BK231, HB⟩ := hcut
  cases kq with
  | zero => exact absurd HA.out (by simp [standbylaw55_CurveMakes.j0])
  | succ kj3 =>
   have H := HA.out
   clear HA
   simp only [standbylaw55_CurveMakes.j0] at H
   by_cases c12 : x23_3 = true
   ·subst c12
    have H1 : ((standbylaw55_awake.f kj3).bind fun t233 => (some t233)) = some r := by rw [if_pos rfl] at H; exact H
    clear H
    have H := H1
    clear H1
    replace H := Option.bind_eq_some_iff.mp H
    obtain ⟨t233, A130, H⟩ := H
    replace H : (some t233) = some r := H
    have A13 := Aside0.mk A130
    clear A130
    obtain rfl := Option.some.inj H
    go_wp2_with (first | ((with_reducible refine gate_callee (f := 11) rfl ?_); refine goesL_ (some 24) rfl rfl Try.func11 (by kernel_rfl) rfl #[] rfl (by (try simp only [List.map_toArray, List.map_cons, List.map_nil]); first | done | rfl | (simp only [List.length_drop, List.length_take]; rfl)) ?_; (with_reducible refine (standbylaw55_awake.calls kj3  t233 _ A13.out).mono ?_); rintro e w14 ⟨rfl, hb⟩; refine ⟨_, rfl, ?_⟩; have n0_ := Aside0.mk (blk_below (qB BK230.out) hb); have n1_ := Aside0.mk (blk_below (qB BK231.out) hb); have n2_ := Aside0.mk (below_step (qW HB.out) hb); clear BK230 BK231 HB; have BK230 := n0_; have BK231 := n1_; have HB := n2_; clear n0_ n1_ n2_; (try clear hb); (try clear hb2); (try clear hk); (try clear hi)))
    go_ret
    exact ⟨by first | rfl | (simp [errW_none, errW_some] <;> rfl) | (simp [*, errW_none, errW_some] <;> rfl), by repeat (first | (with_reducible first | exact HB.out | apply below_alloc | apply pw_below_drewN | apply below_drew1 | refine below_set ?_ GE230.out | refine below_set ?_ GE231.out) | exact HB.out)⟩
   ·replace c12 := Bool.eq_false_iff.mpr c12
    subst c12
    have H1 : ((curve_Arrival.f l1 a2_0).bind fun bt234 => ((standbyref55_Arrival.f kj3 l1 a2_0).bind fun bt240 => ((curve_Service.f l1 a2_0).bind fun bt246 => ((standbyref55_Service.f kj3 l1 a2_0).bind fun bt252 => ((curve_Check.f kj3 l0_0 a0_1).bind fun t258 => ((standbyref55_Check.f kj3 l0_0 a0_1).bind fun t259 => (if t258 = t259 then ((curve_At.f kj3 l0_0 a0_1 a2_1).bind fun t260 => ((standbyref55_At.f kj3 l0_0 a0_1 a2_1).bind fun t261 => (if t260 = t261 then ((standbyref55_Same.f kj3 bt234.1 bt234.2.1 bt240.1 bt240.2.1).bind fun t262 => (if t262 = true then (if bt234.2.2 = bt240.2.2 then ((standbyref55_Same.f kj3 bt246.1 bt246.2.1 bt252.1 bt252.2.1).bind fun t263 => (if t263 = true then (if bt246.2.2 = bt252.2.2 then ((standbylaw55_awake.f kj3).bind fun t264 => (some t264)) else (none)) else (none))) else (none)) else (none))) else (none)))) else (none)))))))) = some r := by rw [if_neg (show ¬ (false = true) by decide)] at H; exact H
    clear H
    have H := H1
    clear H1
    replace H := Option.bind_eq_some_iff.mp H
    obtain ⟨⟨t234, t237, t238⟩, A150, H⟩ := H
    replace H : ((standbyref55_Arrival.f kj3 l1 a2_0).bind fun bt240 => ((curve_Service.f l1 a2_0).bind fun bt246 => ((standbyref55_Service.f kj3 l1 a2_0).bind fun bt252 => ((curve_Check.f kj3 l0_0 a0_1).bind fun t258 => ((standbyref55_Check.f kj3 l0_0 a0_1).bind fun t259 => (if t258 = t259 then ((curve_At.f kj3 l0_0 a0_1 a2_1).bind fun t260 => ((standbyref55_At.f kj3 l0_0 a0_1 a2_1).bind fun t261 => (if t260 = t261 then ((standbyref55_Same.f kj3 t234 t237 bt240.1 bt240.2.1).bind fun t262 => (if t262 = true then (if t238 = bt240.2.2 then ((standbyref55_Same.f kj3 bt246.1 bt246.2.1 bt252.1 bt252.2.1).bind fun t263 => (if t263 = true then (if bt246.2.2 = bt252.2.2 then ((standbylaw55_awake.f kj3).bind fun t264 => (some t264)) else (none)) else (none))) else (none)) else (none))) else (none)))) else (none))))))) = some r := H
    have A15 := Aside0.mk A150
    clear A150
    replace H := Option.bind_eq_some_iff.mp H
    obtain ⟨⟨t240, t243, t244⟩, A160, H⟩ := H
    replace H : ((curve_Service.f l1 a2_0).bind fun bt246 => ((standbyref55_Service.f kj3 l1 a2_0).bind fun bt252 => ((curve_Check.f kj3 l0_0 a0_1).bind fun t258 => ((standbyref55_Check.f kj3 l0_0 a0_1).bind fun t259 => (if t258 = t259 then ((curve_At.f kj3 l0_0 a0_1 a2_1).bind fun t260 => ((standbyref55_At.f kj3 l0_0 a0_1 a2_1).bind fun t261 => (if t260 = t261 then ((standbyref55_Same.f kj3 t234 t237 t240 t243).bind fun t262 => (if t262 = true then (if t238 = t244 then ((standbyref55_Same.f kj3 bt246.1 bt246.2.1 bt252.1 bt252.2.1).bind fun t263 => (if t263 = true then (if bt246.2.2 = bt252.2.2 then ((standbylaw55_awake.f kj3).bind fun t264 => (some t264)) else (none)) else (none))) else (none)) else (none))) else (none)))) else (none)))))) = some r := H
    have A16 := Aside0.mk A160
    clear A160
    replace H := Option.bind_eq_some_iff.mp H
    obtain ⟨⟨t246, t249, t250⟩, A170, H⟩ := H
    replace H : ((standbyref55_Service.f kj3 l1 a2_0).bind fun bt252 => ((curve_Check.f kj3 l0_0 a0_1).bind fun t258 => ((standbyref55_Check.f kj3 l0_0 a0_1).bind fun t259 => (if t258 = t259 then ((curve_At.f kj3 l0_0 a0_1 a2_1).bind fun t260 => ((standbyref55_At.f kj3 l0_0 a0_1 a2_1).bind fun t261 => (if t260 = t261 then ((standbyref55_Same.f kj3 t234 t237 t240 t243).bind fun t262 => (if t262 = true then (if t238 = t244 then ((standbyref55_Same.f kj3 t246 t249 bt252.1 bt252.2.1).bind fun t263 => (if t263 = true then (if t250 = bt252.2.2 then ((standbylaw55_awake.f kj3).bind fun t264 => (some t264)) else (none)) else (none))) else (none)) else (none))) else (none)))) else (none))))) = some r := H
    have A17 := Aside0.mk A170
    clear A170
    replace H := Option.bind_eq_some_iff.mp H
    obtain ⟨⟨t252, t255, t256⟩, A180, H⟩ := H
    replace H : ((curve_Check.f kj3 l0_0 a0_1).bind fun t258 => ((standbyref55_Check.f kj3 l0_0 a0_1).bind fun t259 => (if t258 = t259 then ((curve_At.f kj3 l0_0 a0_1 a2_1).bind fun t260 => ((standbyref55_At.f kj3 l0_0 a0_1 a2_1).bind fun t261 => (if t260 = t261 then ((standbyref55_Same.f kj3 t234 t237 t240 t243).bind fun t262 => (if t262 = true then (if t238 = t244 then ((standbyref55_Same.f kj3 t246 t249 t252 t255).bind fun t263 => (if t263 = true then (if t250 = t256 then ((standbylaw55_awake.f kj3).bind fun t264 => (some t264)) else (none)) else (none))) else (none)) else (none))) else (none)))) else (none)))) = some r := H
    have A18 := Aside0.mk A180
    clear A180
    replace H := Option.bind_eq_some_iff.mp H
    obtain ⟨t258, A190, H⟩ := H
    replace H : ((standbyref55_Check.f kj3 l0_0 a0_1).bind fun t259 => (if t258 = t259 then ((curve_At.f kj3 l0_0 a0_1 a2_1).bind fun t260 => ((standbyref55_At.f kj3 l0_0 a0_1 a2_1).bind fun t261 => (if t260 = t261 then ((standbyref55_Same.f kj3 t234 t237 t240 t243).bind fun t262 => (if t262 = true then (if t238 = t244 then ((standbyref55_Same.f kj3 t246 t249 t252 t255).bind fun t263 => (if t263 = true then (if t250 = t256 then ((standbylaw55_awake.f kj3).bind fun t264 => (some t264)) else (none)) else (none))) else (none)) else (none))) else (none)))) else (none))) = some r := H
    have A19 := Aside0.mk A190
    clear A190
    replace H := Option.bind_eq_some_iff.mp H
    obtain ⟨t259, A200, H⟩ := H
    replace H : (if t258 = t259 then ((curve_At.f kj3 l0_0 a0_1 a2_1).bind fun t260 => ((standbyref55_At.f kj3 l0_0 a0_1 a2_1).bind fun t261 => (if t260 = t261 then ((standbyref55_Same.f kj3 t234 t237 t240 t243).bind fun t262 => (if t262 = true then (if t238 = t244 then ((standbyref55_Same.f kj3 t246 t249 t252 t255).bind fun t263 => (if t263 = true then (if t250 = t256 then ((standbylaw55_awake.f kj3).bind fun t264 => (some t264)) else (none)) else (none))) else (none)) else (none))) else (none)))) else (none)) = some r := H
    have A20 := Aside0.mk A200
    clear A200
    by_cases c21 : t258 = t259
    case neg =>
     rw [if_neg c21] at H
     exact absurd H (by simp)

    rw [if_pos c21] at H
    have c21b0 : (t258 == t259) = true := beq_iff_eq.mpr c21
    have c21b1 : (t258 != t259) = false := bne_eq_false_iff_eq.mpr c21
    clear c21
    replace H := Option.bind_eq_some_iff.mp H
    obtain ⟨t260, A220, H⟩ := H
    replace H : ((standbyref55_At.f kj3 l0_0 a0_1 a2_1).bind fun t261 => (if t260 = t261 then ((standbyref55_Same.f kj3 t234 t237 t240 t243).bind fun t262 => (if t262 = true then (if t238 = t244 then ((standbyref55_Same.f kj3 t246 t249 t252 t255).bind fun t263 => (if t263 = true then (if t250 = t256 then ((standbylaw55_awake.f kj3).bind fun t264 => (some t264)) else (none)) else (none))) else (none)) else (none))) else (none))) = some r := H
    have A22 := Aside0.mk A220
    clear A220
    replace H := Option.bind_eq_some_iff.mp H
    obtain ⟨t261, A230, H⟩ := H
    replace H : (if t260 = t261 then ((standbyref55_Same.f kj3 t234 t237 t240 t243).bind fun t262 => (if t262 = true then (if t238 = t244 then ((standbyref55_Same.f kj3 t246 t249 t252 t255).bind fun t263 => (if t263 = true then (if t250 = t256 then ((standbylaw55_awake.f kj3).bind fun t264 => (some t264)) else (none)) else (none))) else (none)) else (none))) else (none)) = some r := H
    have A23 := Aside0.mk A230
    clear A230
    by_cases c24 : t260 = t261
    case neg =>
     rw [if_neg c24] at H
     exact absurd H (by simp)
    rw [if_pos c24] at H
    have c24b0 : (t260 == t261) = true := beq_iff_eq.mpr c24
    have c24b1 : (t260 != t261) = false := bne_eq_false_iff_eq.mpr c24
    clear c24
    replace H := Option.bind_eq_some_iff.mp H
    obtain ⟨t262, A250, H⟩ := H
    replace H : (if t262 = true then (if t238 = t244 then ((standbyref55_Same.f kj3 t246 t249 t252 t255).bind fun t263 => (if t263 = true then (if t250 = t256 then ((standbylaw55_awake.f kj3).bind fun t264 => (some t264)) else (none)) else (none))) else (none)) else (none)) = some r := H
    have A25 := Aside0.mk A250
    clear A250
    by_cases c26 : t262 = true
    case neg =>
     replace c26 := Bool.eq_false_iff.mpr c26
     subst c26
     have H1 : (none) = some r := by rw [if_neg (show ¬ (false = true) by decide)] at H; exact H
     clear H
     have H := H1
     clear H1
     exact absurd H (by simp)
    subst c26
    have H1 : (if t238 = t244 then ((standbyref55_Same.f kj3 t246 t249 t252 t255).bind fun t263 => (if t263 = true then (if t250 = t256 then ((standbylaw55_awake.f kj3).bind fun t264 => (some t264)) else (none)) else (none))) else (none)) = some r := by rw [if_pos rfl] at H; exact H
    clear H
    have H := H1
    clear H1
    by_cases c27 : t238 = t244
    case neg =>
     rw [if_neg c27] at H
     exact absurd H (by simp)
    rw [if_pos c27] at H
    have c27b0 : (t238 == t244) = true := beq_iff_eq.mpr c27
    have c27b1 : (t238 != t244) = false := bne_eq_false_iff_eq.mpr c27
    clear c27
    replace H := Option.bind_eq_some_iff.mp H
    obtain ⟨t263, A280, H⟩ := H
    replace H : (if t263 = true then (if t250 = t256 then ((standbylaw55_awake.f kj3).bind fun t264 => (some t264)) else (none)) else (none)) = some r := H
    have A28 := Aside0.mk A280
    clear A280
    by_cases c29 : t263 = true
    case neg =>
     replace c29 := Bool.eq_false_iff.mpr c29
     subst c29
     have H1 : (none) = some r := by rw [if_neg (show ¬ (false = true) by decide)] at H; exact H
     clear H
     have H := H1
     clear H1
     exact absurd H (by simp)
    subst c29
    have H1 : (if t250 = t256 then ((standbylaw55_awake.f kj3).bind fun t264 => (some t264)) else (none)) = some r := by rw [if_pos rfl] at H; exact H
    clear H
    have H := H1
    clear H1
    by_cases c30 : t250 = t256
    case neg =>
     rw [if_neg c30] at H
     exact absurd H (by simp)
    rw [if_pos c30] at H
    have c30b0 : (t250 == t256) = true := beq_iff_eq.mpr c30
    have c30b1 : (t250 != t256) = false := bne_eq_false_iff_eq.mpr c30
    clear c30
    replace H := Option.bind_eq_some_iff.mp H
    obtain ⟨t264, A310, H⟩ := H
    replace H : (some t264) = some r := H
    have A31 := Aside0.mk A310
    clear A310
    obtain rfl := Option.some.inj H
    have hnb32 := NB231_230.out
    have hnc32 := NB230_231.out
    have hcz33_0 : wc.cell? ⟨gb231, 0, none⟩ = some (.int .i64 a2_0) := (blk_cell BK231.out 0).trans rfl
    have hcz33_1 : wc.cell? ⟨gb231, 1, none⟩ = some (.int .i64 a2_1) := (blk_cell BK231.out 1).trans rfl
    have hfz33_0 := blk_frozen BK231.out 0
    have hfz33_1 := blk_frozen BK231.out 1
    try go_wp2_with (first | ((with_reducible refine gate_callee (f := 12) rfl ?_); refine goesL_ (some 29) rfl rfl Try.func12 (by kernel_rfl) rfl #[.slice A1 l1.length c1, .int .i64 a2_0] rfl (by (try simp only [List.map_toArray, List.map_cons, List.map_nil]); first | done | rfl | (simp only [List.length_drop, List.length_take]; rfl)) ?_; (with_reducible refine (curve_Arrival.calls _ _ l1 a2_0 t234 t237 t238 _ ?side1 ?side2 A15.out).mono ?_); (case side1 => exact qC HR1.out HB.out); (case side2 => exact HC1.out); rintro e w34 ⟨v235, rfl, ho0, hb⟩; refine ⟨_, rfl, ?_⟩; have n0_ := Aside0.mk (Kd.R_lower ho0 (below_size (qW HB.out))); have n1_ := Aside0.mk (blk_below (qB BK230.out) hb); have n2_ := Aside0.mk (blk_below (qB BK231.out) hb); have n3_ := Aside0.mk (below_step (qW HB.out) hb); clear BK230 BK231 HB; have HO236 := n0_; have BK230 := n1_; have BK231 := n2_; have HB := n3_; clear n0_ n1_ n2_ n3_; (try clear hb); (try clear hb2); (try clear hk); (try clear hi); (try clear ho0)) | ((with_reducible refine gate_dst (N := 7) rfl ?_); (try (refine gate_guard (by rfl) ?_; dsimp only)); refine box_event ?hg (N := 7) ?hd (cs := #[.slice none 0 0, .int .i64 0]) (t := 24) ?hr ?_; (case hd => rfl); (case hg => rfl); (case hr => first | (go_simp; done) | (go_simp; rfl)); intro gb239 hg w35 hbox hb; have n0_ := Aside0.mk (Kd.R_below (qR HO236.out) hb); have n1_ := Aside0.mk (blk_below (qB BK230.out) hb); have n2_ := Aside0.mk (blk_below (qB BK231.out) hb); have n3_ := Aside0.mk (below_step (qW HB.out) hb); have n4_ := Aside0.mk (hbox); have n5_ := Aside0.mk ((by rw [hg]; exact (below_size (qW HB.out)) : w.heap.size ≤ gb239)); have n6_ := Aside0.mk ((by rw [hg]; exact (below_size (qW HB.out)) : w.heap.size ≤ gb239)); have n7_ := Aside0.mk ((by rw [hg]; exact Nat.ne_of_lt (blk_lt (qB BK230.out)) : gb230 ≠ gb239)); have n8_ := Aside0.mk ((by rw [hg]; exact Nat.ne_of_gt (blk_lt (qB BK230.out)) : gb239 ≠ gb230)); have n9_ := Aside0.mk ((by rw [hg]; exact Nat.ne_of_lt (blk_lt (qB BK231.out)) : gb231 ≠ gb239)); have n10_ := Aside0.mk ((by rw [hg]; exact Nat.ne_of_gt (blk_lt (qB BK231.out)) : gb239 ≠ gb231)); clear HO236 BK230 BK231 HB; have HO236 := n0_; have BK230 := n1_; have BK231 := n2_; have HB := n3_; have BK239 := n4_; have GW239 := n5_; have GE239 := n6_; have NB230_239 := n7_; have NB239_230 := n8_; have NB231_239 := n9_; have NB239_231 := n10_; clear n0_ n1_ n2_ n3_ n4_ n5_ n6_ n7_ n8_ n9_ n10_ hb hbox hg; obtain ⟨Ao36, co36, eo36⟩ := Kd.R_slice HO236.out; subst eo36; have hnb37 := NB239_230.out; have hnc37 := NB230_239.out; have hnb38 := NB239_231.out; have hnc38 := NB231_239.out; have hcz39_0 : w35.cell? ⟨gb239, 0, none⟩ = some (.slice none 0 0) := (blk_cell BK239.out 0).trans rfl; have hcz39_1 : w35.cell? ⟨gb239, 1, none⟩ = some (.int .i64 0) := (blk_cell BK239.out 1).trans rfl; have hfz39_0 := blk_frozen BK239.out 0; have hfz39_1 := blk_frozen BK239.out 1; have hcz40_0 : w35.cell? ⟨gb231, 0, none⟩ = some (.int .i64 a2_0) := (blk_cell BK231.out 0).trans rfl; have hcz40_1 : w35.cell? ⟨gb231, 1, none⟩ = some (.int .i64 a2_1) := (blk_cell BK231.out 1).trans rfl; have hfz40_0 := blk_frozen BK231.out 0; have hfz40_1 := blk_frozen BK231.out 1) | ((with_reducible refine gate_callee (f := 13) rfl ?_); refine goesL_ (some 36) rfl rfl Try.func13 (by kernel_rfl) rfl #[.slice A1 l1.length c1, .int .i64 a2_0] rfl (by (try simp only [List.map_toArray, List.map_cons, List.map_nil]); first | done | rfl | (simp only [List.length_drop, List.length_take]; rfl)) ?_; (with_reducible refine (standbyref55_Arrival.calls kj3 _ _ l1 a2_0 t240 t243 t244 _ ?side1 ?side2 A16.out).mono ?_); (case side1 => exact Kd.C_below HR1.out (qW HB.out)); (case side2 => exact HC1.out); rintro e w41 ⟨v241, rfl, ho0, hb⟩; refine ⟨_, rfl, ?_⟩; have n0_ := Aside0.mk (Kd.R_elder' (qR (Kd.R_mono (Kd.R_far (p := ⟨gb239, 1, none⟩) (Kd.R_far (p := ⟨gb239, 0, none⟩) (Kd.R_types HO236.out BK239.out (by decide)) (fun _ hk => hk.2) (.slice Ao36 t234.length co36)) (fun _ hk => hk.2) (.int .i64 t237)) (fun _ h_ => h_.1))) (Kd.R_base ho0) hb); have n1_ := Aside0.mk (Kd.R_lower (Kd.R_new' ho0 (Kd.R_lt (qR (Kd.R_mono (Kd.R_far (p := ⟨gb239, 1, none⟩) (Kd.R_far (p := ⟨gb239, 0, none⟩) (Kd.R_types HO236.out BK239.out (by decide)) (fun _ hk => hk.2) (.slice Ao36 t234.length co36)) (fun _ hk => hk.2) (.int .i64 t237)) (fun _ h_ => h_.1))))) (below_size (qW HB.out))); have n2_ := Aside0.mk (blk_below (g := gb230) (o := .cells #[.slice A0_0 l0_0.length c0_0, .int .i64 a0_1] 24 (0, 0)) (by (with_reducible repeat (first | refine blk_drewN ?_ _ | refine blk_drew ?_ | refine blk_alloc ?_ _)); refine blk_far ?_ NB230_239.out _; (with_reducible repeat (first | refine blk_drewN ?_ _ | refine blk_drew ?_ | refine blk_alloc ?_ _)); refine blk_far ?_ NB230_239.out _; exact qB BK230.out) hb); have n3_ := Aside0.mk (blk_below (g := gb231) (o := .cells #[.int .i64 a2_0, .int .i64 a2_1] 25 (0, 0)) (by (with_reducible repeat (first | refine blk_drewN ?_ _ | refine blk_drew ?_ | refine blk_alloc ?_ _)); refine blk_far ?_ NB231_239.out _; (with_reducible repeat (first | refine blk_drewN ?_ _ | refine blk_drew ?_ | refine blk_alloc ?_ _)); refine blk_far ?_ NB231_239.out _; exact qB BK231.out) hb); have n4_ := Aside0.mk (blk_below (g := gb239) (o := .cells #[.slice Ao36 t234.length co36, .int .i64 t237] 24 (0, 0)) (by (with_reducible repeat (first | refine blk_drewN ?_ _ | refine blk_drew ?_ | refine blk_alloc ?_ _)); refine blk_put (cs := #[.slice Ao36 t234.length co36, .int .i64 0]) ?_ 1 _ rfl; (with_reducible repeat (first | refine blk_drewN ?_ _ | refine blk_drew ?_ | refine blk_alloc ?_ _)); refine blk_put (cs := #[.slice none 0 0, .int .i64 0]) ?_ 0 _ rfl; exact qB BK239.out) hb); have n5_ := Aside0.mk (below_step (qW HB.out) hb); clear HO236 BK230 BK231 BK239 HB; have HO236 := n0_; have HO242 := n1_; have BK230 := n2_; have BK231 := n3_; have BK239 := n4_; have HB := n5_; clear n0_ n1_ n2_ n3_ n4_ n5_; (try clear hb); (try clear hb2); (try clear hk); (try clear hi); (try clear ho0)) | ((with_reducible refine gate_dst (N := 9) rfl ?_); (try (refine gate_guard (by rfl) ?_; dsimp only)); refine box_event ?hg (N := 9) ?hd (cs := #[.slice none 0 0, .int .i64 0]) (t := 24) ?hr ?_; (case hd => rfl); (case hg => rfl); (case hr => first | (go_simp; done) | (go_simp; rfl)); intro gb245 hg w42 hbox hb; have n0_ := Aside0.mk (Kd.R_below (qR HO236.out) hb); have n1_ := Aside0.mk (Kd.R_below (qR HO242.out) hb); have n2_ := Aside0.mk (blk_below (qB BK230.out) hb); have n3_ := Aside0.mk (blk_below (qB BK231.out) hb); have n4_ := Aside0.mk (blk_below (qB BK239.out) hb); have n5_ := Aside0.mk (below_step (qW HB.out) hb); have n6_ := Aside0.mk (hbox); have n7_ := Aside0.mk ((by rw [hg]; exact (below_size (qW HB.out)) : w.heap.size ≤ gb245)); have n8_ := Aside0.mk ((by rw [hg]; exact (below_size (qW HB.out)) : w.heap.size ≤ gb245)); have n9_ := Aside0.mk ((by rw [hg]; exact Nat.ne_of_lt (blk_lt (qB BK230.out)) : gb230 ≠ gb245)); have n10_ := Aside0.mk ((by rw [hg]; exact Nat.ne_of_gt (blk_lt (qB BK230.out)) : gb245 ≠ gb230)); have n11_ := Aside0.mk ((by rw [hg]; exact Nat.ne_of_lt (blk_lt (qB BK231.out)) : gb231 ≠ gb245)); have n12_ := Aside0.mk ((by rw [hg]; exact Nat.ne_of_gt (blk_lt (qB BK231.out)) : gb245 ≠ gb231)); have n13_ := Aside0.mk ((by rw [hg]; exact Nat.ne_of_lt (blk_lt (qB BK239.out)) : gb239 ≠ gb245)); have n14_ := Aside0.mk ((by rw [hg]; exact Nat.ne_of_gt (blk_lt (qB BK239.out)) : gb245 ≠ gb239)); clear HO236 HO242 BK230 BK231 BK239 HB; have HO236 := n0_; have HO242 := n1_; have BK230 := n2_; have BK231 := n3_; have BK239 := n4_; have HB := n5_; have BK245 := n6_; have GW245 := n7_; have GE245 := n8_; have NB230_245 := n9_; have NB245_230 := n10_; have NB231_245 := n11_; have NB245_231 := n12_; have NB239_245 := n13_; have NB245_239 := n14_; clear n0_ n1_ n2_ n3_ n4_ n5_ n6_ n7_ n8_ n9_ n10_ n11_ n12_ n13_ n14_ hb hbox hg; obtain ⟨Ao43, co43, eo43⟩ := Kd.R_slice HO242.out; subst eo43; have hnb44 := NB245_230.out; have hnc44 := NB230_245.out; have hnb45 := NB245_231.out; have hnc45 := NB231_245.out; have hnb46 := NB245_239.out; have hnc46 := NB239_245.out; have hcz47_0 : w42.cell? ⟨gb245, 0, none⟩ = some (.slice none 0 0) := (blk_cell BK245.out 0).trans rfl; have hcz47_1 : w42.cell? ⟨gb245, 1, none⟩ = some (.int .i64 0) := (blk_cell BK245.out 1).trans rfl; have hfz47_0 := blk_frozen BK245.out 0; have hfz47_1 := blk_frozen BK245.out 1; have hcz48_0 : w42.cell? ⟨gb231, 0, none⟩ = some (.int .i64 a2_0) := (blk_cell BK231.out 0).trans rfl; have hcz48_1 : w42.cell? ⟨gb231, 1, none⟩ = some (.int .i64 a2_1) := (blk_cell BK231.out 1).trans rfl; have hfz48_0 := blk_frozen BK231.out 0; have hfz48_1 := blk_frozen BK231.out 1) | ((with_reducible refine gate_callee (f := 14) rfl ?_); refine goesL_ (some 43) rfl rfl Try.func14 (by kernel_rfl) rfl #[.slice A1 l1.length c1, .int .i64 a2_0] rfl (by (try simp only [List.map_toArray, List.map_cons, List.map_nil]); first | done | rfl | (simp only [List.length_drop, List.length_take]; rfl)) ?_; (with_reducible refine (curve_Service.calls _ _ l1 a2_0 t246 t249 t250 _ ?side1 ?side2 A17.out).mono ?_); (case side1 => exact Kd.C_below HR1.out (qW HB.out)); (case side2 => exact HC1.out); rintro e w49 ⟨v247, rfl, ho0, hb⟩; refine ⟨_, rfl, ?_⟩; have n0_ := Aside0.mk (Kd.R_elder' (qR (Kd.R_mono (Kd.R_far (p := ⟨gb245, 1, none⟩) (Kd.R_far (p := ⟨gb245, 0, none⟩) (Kd.R_types HO236.out BK245.out (by decide)) (fun _ hk => hk.2) (.slice Ao43 t240.length co43)) (fun _ hk => hk.2) (.int .i64 t243)) (fun _ h_ => h_.1))) (Kd.R_base ho0) hb); have n1_ := Aside0.mk (Kd.R_elder' (qR (Kd.R_mono (Kd.R_far (p := ⟨gb245, 1, none⟩) (Kd.R_far (p := ⟨gb245, 0, none⟩) (Kd.R_types HO242.out BK245.out (by decide)) (fun _ hk => hk.2) (.slice Ao43 t240.length co43)) (fun _ hk => hk.2) (.int .i64 t243)) (fun _ h_ => h_.1))) (Kd.R_base ho0) hb); have n2_ := Aside0.mk (Kd.R_lower (Kd.R_new' (Kd.R_new' ho0 (Kd.R_lt (qR (Kd.R_mono (Kd.R_far (p := ⟨gb245, 1, none⟩) (Kd.R_far (p := ⟨gb245, 0, none⟩) (Kd.R_types HO236.out BK245.out (by decide)) (fun _ hk => hk.2) (.slice Ao43 t240.length co43)) (fun _ hk => hk.2) (.int .i64 t243)) (fun _ h_ => h_.1))))) (Kd.R_lt (qR (Kd.R_mono (Kd.R_far (p := ⟨gb245, 1, none⟩) (Kd.R_far (p := ⟨gb245, 0, none⟩) (Kd.R_types HO242.out BK245.out (by decide)) (fun _ hk => hk.2) (.slice Ao43 t240.length co43)) (fun _ hk => hk.2) (.int .i64 t243)) (fun _ h_ => h_.1))))) (below_size (qW HB.out))); have n3_ := Aside0.mk (blk_below (g := gb230) (o := .cells #[.slice A0_0 l0_0.length c0_0, .int .i64 a0_1] 24 (0, 0)) (by (with_reducible repeat (first | refine blk_drewN ?_ _ | refine blk_drew ?_ | refine blk_alloc ?_ _)); refine blk_far ?_ NB230_245.out _; (with_reducible repeat (first | refine blk_drewN ?_ _ | refine blk_drew ?_ | refine blk_alloc ?_ _)); refine blk_far ?_ NB230_245.out _; exact qB BK230.out) hb); have n4_ := Aside0.mk (blk_below (g := gb231) (o := .cells #[.int .i64 a2_0, .int .i64 a2_1] 25 (0, 0)) (by (with_reducible repeat (first | refine blk_drewN ?_ _ | refine blk_drew ?_ | refine blk_alloc ?_ _)); refine blk_far ?_ NB231_245.out _; (with_reducible repeat (first | refine blk_drewN ?_ _ | refine blk_drew ?_ | refine blk_alloc ?_ _)); refine blk_far ?_ NB231_245.out _; exact qB BK231.out) hb); have n5_ := Aside0.mk (blk_below (g := gb239) (o := .cells #[.slice Ao36 t234.length co36, .int .i64 t237] 24 (0, 0)) (by (with_reducible repeat (first | refine blk_drewN ?_ _ | refine blk_drew ?_ | refine blk_alloc ?_ _)); refine blk_far ?_ NB239_245.out _; (with_reducible repeat (first | refine blk_drewN ?_ _ | refine blk_drew ?_ | refine blk_alloc ?_ _)); refine blk_far ?_ NB239_245.out _; exact qB BK239.out) hb); have n6_ := Aside0.mk (blk_below (g := gb245) (o := .cells #[.slice Ao43 t240.length co43, .int .i64 t243] 24 (0, 0)) (by (with_reducible repeat (first | refine blk_drewN ?_ _ | refine blk_drew ?_ | refine blk_alloc ?_ _)); refine blk_put (cs := #[.slice Ao43 t240.length co43, .int .i64 0]) ?_ 1 _ rfl; (with_reducible repeat (first | refine blk_drewN ?_ _ | refine blk_drew ?_ | refine blk_alloc ?_ _)); refine blk_put (cs := #[.slice none 0 0, .int .i64 0]) ?_ 0 _ rfl; exact qB BK245.out) hb); have n7_ := Aside0.mk (below_step (qW HB.out) hb); clear HO236 HO242 BK230 BK231 BK239 BK245 HB; have HO236 := n0_; have HO242 := n1_; have HO248 := n2_; have BK230 := n3_; have BK231 := n4_; have BK239 := n5_; have BK245 := n6_; have HB := n7_; clear n0_ n1_ n2_ n3_ n4_ n5_ n6_ n7_; (try clear hb); (try clear hb2); (try clear hk); (try clear hi); (try clear ho0)) | ((with_reducible refine gate_dst (N := 11) rfl ?_); (try (refine gate_guard (by rfl) ?_; dsimp only)); refine box_event ?hg (N := 11) ?hd (cs := #[.slice none 0 0, .int .i64 0]) (t := 24) ?hr ?_; (case hd => rfl); (case hg => rfl); (case hr => first | (go_simp; done) | (go_simp; rfl)); intro gb251 hg w50 hbox hb; have n0_ := Aside0.mk (Kd.R_below (qR HO236.out) hb); have n1_ := Aside0.mk (Kd.R_below (qR HO242.out) hb); have n2_ := Aside0.mk (Kd.R_below (qR HO248.out) hb); have n3_ := Aside0.mk (blk_below (qB BK230.out) hb); have n4_ := Aside0.mk (blk_below (qB BK231.out) hb); have n5_ := Aside0.mk (blk_below (qB BK239.out) hb); have n6_ := Aside0.mk (blk_below (qB BK245.out) hb); have n7_ := Aside0.mk (below_step (qW HB.out) hb); have n8_ := Aside0.mk (hbox); have n9_ := Aside0.mk ((by rw [hg]; exact (below_size (qW HB.out)) : w.heap.size ≤ gb251)); have n10_ := Aside0.mk ((by rw [hg]; exact (below_size (qW HB.out)) : w.heap.size ≤ gb251)); have n11_ := Aside0.mk ((by rw [hg]; exact Nat.ne_of_lt (blk_lt (qB BK230.out)) : gb230 ≠ gb251)); have n12_ := Aside0.mk ((by rw [hg]; exact Nat.ne_of_gt (blk_lt (qB BK230.out)) : gb251 ≠ gb230)); have n13_ := Aside0.mk ((by rw [hg]; exact Nat.ne_of_lt (blk_lt (qB BK231.out)) : gb231 ≠ gb251)); have n14_ := Aside0.mk ((by rw [hg]; exact Nat.ne_of_gt (blk_lt (qB BK231.out)) : gb251 ≠ gb231)); have n15_ := Aside0.mk ((by rw [hg]; exact Nat.ne_of_lt (blk_lt (qB BK239.out)) : gb239 ≠ gb251)); have n16_ := Aside0.mk ((by rw [hg]; exact Nat.ne_of_gt (blk_lt (qB BK239.out)) : gb251 ≠ gb239)); have n17_ := Aside0.mk ((by rw [hg]; exact Nat.ne_of_lt (blk_lt (qB BK245.out)) : gb245 ≠ gb251)); have n18_ := Aside0.mk ((by rw [hg]; exact Nat.ne_of_gt (blk_lt (qB BK245.out)) : gb251 ≠ gb245)); clear HO236 HO242 HO248 BK230 BK231 BK239 BK245 HB; have HO236 := n0_; have HO242 := n1_; have HO248 := n2_; have BK230 := n3_; have BK231 := n4_; have BK239 := n5_; have BK245 := n6_; have HB := n7_; have BK251 := n8_; have GW251 := n9_; have GE251 := n10_; have NB230_251 := n11_; have NB251_230 := n12_; have NB231_251 := n13_; have NB251_231 := n14_; have NB239_251 := n15_; have NB251_239 := n16_; have NB245_251 := n17_; have NB251_245 := n18_; clear n0_ n1_ n2_ n3_ n4_ n5_ n6_ n7_ n8_ n9_ n10_ n11_ n12_ n13_ n14_ n15_ n16_ n17_ n18_ hb hbox hg; obtain ⟨Ao51, co51, eo51⟩ := Kd.R_slice HO248.out; subst eo51; have hnb52 := NB251_230.out; have hnc52 := NB230_251.out; have hnb53 := NB251_231.out; have hnc53 := NB231_251.out; have hnb54 := NB251_239.out; have hnc54 := NB239_251.out; have hnb55 := NB251_245.out; have hnc55 := NB245_251.out; have hcz56_0 : w50.cell? ⟨gb251, 0, none⟩ = some (.slice none 0 0) := (blk_cell BK251.out 0).trans rfl; have hcz56_1 : w50.cell? ⟨gb251, 1, none⟩ = some (.int .i64 0) := (blk_cell BK251.out 1).trans rfl; have hfz56_0 := blk_frozen BK251.out 0; have hfz56_1 := blk_frozen BK251.out 1; have hcz57_0 : w50.cell? ⟨gb231, 0, none⟩ = some (.int .i64 a2_0) := (blk_cell BK231.out 0).trans rfl; have hcz57_1 : w50.cell? ⟨gb231, 1, none⟩ = some (.int .i64 a2_1) := (blk_cell BK231.out 1).trans rfl; have hfz57_0 := blk_frozen BK231.out 0; have hfz57_1 := blk_frozen BK231.out 1) | ((with_reducible refine gate_callee (f := 15) rfl ?_); refine goesL_ (some 50) rfl rfl Try.func15 (by kernel_rfl) rfl #[.slice A1 l1.length c1, .int .i64 a2_0] rfl (by (try simp only [List.map_toArray, List.map_cons, List.map_nil]); first | done | rfl | (simp only [List.length_drop, List.length_take]; rfl)) ?_; (with_reducible refine (standbyref55_Service.calls kj3 _ _ l1 a2_0 t252 t255 t256 _ ?side1 ?side2 A18.out).mono ?_); (case side1 => exact Kd.C_below HR1.out (qW HB.out)); (case side2 => exact HC1.out); rintro e w58 ⟨v253, rfl, ho0, hb⟩; refine ⟨_, rfl, ?_⟩; have n0_ := Aside0.mk (Kd.R_elder' (qR (Kd.R_mono (Kd.R_far (p := ⟨gb251, 1, none⟩) (Kd.R_far (p := ⟨gb251, 0, none⟩) (Kd.R_types HO236.out BK251.out (by decide)) (fun _ hk => hk.2) (.slice Ao51 t246.length co51)) (fun _ hk => hk.2) (.int .i64 t249)) (fun _ h_ => h_.1))) (Kd.R_base ho0) hb); have n1_ := Aside0.mk (Kd.R_elder' (qR (Kd.R_mono (Kd.R_far (p := ⟨gb251, 1, none⟩) (Kd.R_far (p := ⟨gb251, 0, none⟩) (Kd.R_types HO242.out BK251.out (by decide)) (fun _ hk => hk.2) (.slice Ao51 t246.length co51)) (fun _ hk => hk.2) (.int .i64 t249)) (fun _ h_ => h_.1))) (Kd.R_base ho0) hb); have n2_ := Aside0.mk (Kd.R_elder' (qR (Kd.R_mono (Kd.R_far (p := ⟨gb251, 1, none⟩) (Kd.R_far (p := ⟨gb251, 0, none⟩) (Kd.R_types HO248.out BK251.out (by decide)) (fun _ hk => hk.2) (.slice Ao51 t246.length co51)) (fun _ hk => hk.2) (.int .i64 t249)) (fun _ h_ => h_.1))) (Kd.R_base ho0) hb); have n3_ := Aside0.mk (Kd.R_lower (Kd.R_new' (Kd.R_new' (Kd.R_new' ho0 (Kd.R_lt (qR (Kd.R_mono (Kd.R_far (p := ⟨gb251, 1, none⟩) (Kd.R_far (p := ⟨gb251, 0, none⟩) (Kd.R_types HO236.out BK251.out (by decide)) (fun _ hk => hk.2) (.slice Ao51 t246.length co51)) (fun _ hk => hk.2) (.int .i64 t249)) (fun _ h_ => h_.1))))) (Kd.R_lt (qR (Kd.R_mono (Kd.R_far (p := ⟨gb251, 1, none⟩) (Kd.R_far (p := ⟨gb251, 0, none⟩) (Kd.R_types HO242.out BK251.out (by decide)) (fun _ hk => hk.2) (.slice Ao51 t246.length co51)) (fun _ hk => hk.2) (.int .i64 t249)) (fun _ h_ => h_.1))))) (Kd.R_lt (qR (Kd.R_mono (Kd.R_far (p := ⟨gb251, 1, none⟩) (Kd.R_far (p := ⟨gb251, 0, none⟩) (Kd.R_types HO248.out BK251.out (by decide)) (fun _ hk => hk.2) (.slice Ao51 t246.length co51)) (fun _ hk => hk.2) (.int .i64 t249)) (fun _ h_ => h_.1))))) (below_size (qW HB.out))); have n4_ := Aside0.mk (blk_below (g := gb230) (o := .cells #[.slice A0_0 l0_0.length c0_0, .int .i64 a0_1] 24 (0, 0)) (by (with_reducible repeat (first | refine blk_drewN ?_ _ | refine blk_drew ?_ | refine blk_alloc ?_ _)); refine blk_far ?_ NB230_251.out _; (with_reducible repeat (first | refine blk_drewN ?_ _ | refine blk_drew ?_ | refine blk_alloc ?_ _)); refine blk_far ?_ NB230_251.out _; exact qB BK230.out) hb); have n5_ := Aside0.mk (blk_below (g := gb231) (o := .cells #[.int .i64 a2_0, .int .i64 a2_1] 25 (0, 0)) (by (with_reducible repeat (first | refine blk_drewN ?_ _ | refine blk_drew ?_ | refine blk_alloc ?_ _)); refine blk_far ?_ NB231_251.out _; (with_reducible repeat (first | refine blk_drewN ?_ _ | refine blk_drew ?_ | refine blk_alloc ?_ _)); refine blk_far ?_ NB231_251.out _; exact qB BK231.out) hb); have n6_ := Aside0.mk (blk_below (g := gb239) (o := .cells #[.slice Ao36 t234.length co36, .int .i64 t237] 24 (0, 0)) (by (with_reducible repeat (first | refine blk_drewN ?_ _ | refine blk_drew ?_ | refine blk_alloc ?_ _)); refine blk_far ?_ NB239_251.out _; (with_reducible repeat (first | refine blk_drewN ?_ _ | refine blk_drew ?_ | refine blk_alloc ?_ _)); refine blk_far ?_ NB239_251.out _; exact qB BK239.out) hb); have n7_ := Aside0.mk (blk_below (g := gb245) (o := .cells #[.slice Ao43 t240.length co43, .int .i64 t243] 24 (0, 0)) (by (with_reducible repeat (first | refine blk_drewN ?_ _ | refine blk_drew ?_ | refine blk_alloc ?_ _)); refine blk_far ?_ NB245_251.out _; (with_reducible repeat (first | refine blk_drewN ?_ _ | refine blk_drew ?_ | refine blk_alloc ?_ _)); refine blk_far ?_ NB245_251.out _; exact qB BK245.out) hb); have n8_ := Aside0.mk (blk_below (g := gb251) (o := .cells #[.slice Ao51 t246.length co51, .int .i64 t249] 24 (0, 0)) (by (with_reducible repeat (first | refine blk_drewN ?_ _ | refine blk_drew ?_ | refine blk_alloc ?_ _)); refine blk_put (cs := #[.slice Ao51 t246.length co51, .int .i64 0]) ?_ 1 _ rfl; (with_reducible repeat (first | refine blk_drewN ?_ _ | refine blk_drew ?_ | refine blk_alloc ?_ _)); refine blk_put (cs := #[.slice none 0 0, .int .i64 0]) ?_ 0 _ rfl; exact qB BK251.out) hb); have n9_ := Aside0.mk (below_step (qW HB.out) hb); clear HO236 HO242 HO248 BK230 BK231 BK239 BK245 BK251 HB; have HO236 := n0_; have HO242 := n1_; have HO248 := n2_; have HO254 := n3_; have BK230 := n4_; have BK231 := n5_; have BK239 := n6_; have BK245 := n7_; have BK251 := n8_; have HB := n9_; clear n0_ n1_ n2_ n3_ n4_ n5_ n6_ n7_ n8_ n9_; (try clear hb); (try clear hb2); (try clear hk); (try clear hi); (try clear ho0)) | ((with_reducible refine gate_dst (N := 13) rfl ?_); (try (refine gate_guard (by rfl) ?_; dsimp only)); refine box_event ?hg (N := 13) ?hd (cs := #[.slice none 0 0, .int .i64 0]) (t := 24) ?hr ?_; (case hd => rfl); (case hg => rfl); (case hr => first | (go_simp; done) | (go_simp; rfl)); intro gb257 hg w59 hbox hb; have n0_ := Aside0.mk (Kd.R_below (qR HO236.out) hb); have n1_ := Aside0.mk (Kd.R_below (qR HO242.out) hb); have n2_ := Aside0.mk (Kd.R_below (qR HO248.out) hb); have n3_ := Aside0.mk (Kd.R_below (qR HO254.out) hb); have n4_ := Aside0.mk (blk_below (qB BK230.out) hb); have n5_ := Aside0.mk (blk_below (qB BK231.out) hb); have n6_ := Aside0.mk (blk_below (qB BK239.out) hb); have n7_ := Aside0.mk (blk_below (qB BK245.out) hb); have n8_ := Aside0.mk (blk_below (qB BK251.out) hb); have n9_ := Aside0.mk (below_step (qW HB.out) hb); have n10_ := Aside0.mk (hbox); have n11_ := Aside0.mk ((by rw [hg]; exact (below_size (qW HB.out)) : w.heap.size ≤ gb257)); have n12_ := Aside0.mk ((by rw [hg]; exact (below_size (qW HB.out)) : w.heap.size ≤ gb257)); have n13_ := Aside0.mk ((by rw [hg]; exact Nat.ne_of_lt (blk_lt (qB BK230.out)) : gb230 ≠ gb257)); have n14_ := Aside0.mk ((by rw [hg]; exact Nat.ne_of_gt (blk_lt (qB BK230.out)) : gb257 ≠ gb230)); have n15_ := Aside0.mk ((by rw [hg]; exact Nat.ne_of_lt (blk_lt (qB BK231.out)) : gb231 ≠ gb257)); have n16_ := Aside0.mk ((by rw [hg]; exact Nat.ne_of_gt (blk_lt (qB BK231.out)) : gb257 ≠ gb231)); have n17_ := Aside0.mk ((by rw [hg]; exact Nat.ne_of_lt (blk_lt (qB BK239.out)) : gb239 ≠ gb257)); have n18_ := Aside0.mk ((by rw [hg]; exact Nat.ne_of_gt (blk_lt (qB BK239.out)) : gb257 ≠ gb239)); have n19_ := Aside0.mk ((by rw [hg]; exact Nat.ne_of_lt (blk_lt (qB BK245.out)) : gb245 ≠ gb257)); have n20_ := Aside0.mk ((by rw [hg]; exact Nat.ne_of_gt (blk_lt (qB BK245.out)) : gb257 ≠ gb245)); have n21_ := Aside0.mk ((by rw [hg]; exact Nat.ne_of_lt (blk_lt (qB BK251.out)) : gb251 ≠ gb257)); have n22_ := Aside0.mk ((by rw [hg]; exact Nat.ne_of_gt (blk_lt (qB BK251.out)) : gb257 ≠ gb251)); clear HO236 HO242 HO248 HO254 BK230 BK231 BK239 BK245 BK251 HB; have HO236 := n0_; have HO242 := n1_; have HO248 := n2_; have HO254 := n3_; have BK230 := n4_; have BK231 := n5_; have BK239 := n6_; have BK245 := n7_; have BK251 := n8_; have HB := n9_; have BK257 := n10_; have GW257 := n11_; have GE257 := n12_; have NB230_257 := n13_; have NB257_230 := n14_; have NB231_257 := n15_; have NB257_231 := n16_; have NB239_257 := n17_; have NB257_239 := n18_; have NB245_257 := n19_; have NB257_245 := n20_; have NB251_257 := n21_; have NB257_251 := n22_; clear n0_ n1_ n2_ n3_ n4_ n5_ n6_ n7_ n8_ n9_ n10_ n11_ n12_ n13_ n14_ n15_ n16_ n17_ n18_ n19_ n20_ n21_ n22_ hb hbox hg; obtain ⟨Ao60, co60, eo60⟩ := Kd.R_slice HO254.out; subst eo60; have hnb61 := NB257_230.out; have hnc61 := NB230_257.out; have hnb62 := NB257_231.out; have hnc62 := NB231_257.out; have hnb63 := NB257_239.out; have hnc63 := NB239_257.out; have hnb64 := NB257_245.out; have hnc64 := NB245_257.out; have hnb65 := NB257_251.out; have hnc65 := NB251_257.out; have hcz66_0 : w59.cell? ⟨gb257, 0, none⟩ = some (.slice none 0 0) := (blk_cell BK257.out 0).trans rfl; have hcz66_1 : w59.cell? ⟨gb257, 1, none⟩ = some (.int .i64 0) := (blk_cell BK257.out 1).trans rfl; have hfz66_0 := blk_frozen BK257.out 0; have hfz66_1 := blk_frozen BK257.out 1))
    have n0_ : Aside0 (Kd.R (Kd.int .i64) 3 ((w59.setCell ⟨gb257, 0, none⟩ (.slice Ao60 t252.length co60)).setCell ⟨gb257, 1, none⟩ (.int .i64 t255)) w.heap.size (fun k_ => some k_ ≠ (.slice Ao43 t240.length co43 : Value).ownBlock ∧ some k_ ≠ (.slice Ao51 t246.length co51 : Value).ownBlock ∧ some k_ ≠ (.slice Ao60 t252.length co60 : Value).ownBlock) (.slice Ao36 t234.length co36) t234) := ⟨by exact qR (Kd.R_mono (Kd.R_far (p := ⟨gb257, 1, none⟩) (Kd.R_far (p := ⟨gb257, 0, none⟩) (Kd.R_types HO236.out BK257.out (by decide)) (fun _ hk => hk.2) (.slice Ao60 t252.length co60)) (fun _ hk => hk.2) (.int .i64 t255)) (fun _ hk => ⟨hk.1.1.1.2, ⟨hk.1.1.2, hk.1.2⟩⟩))⟩
    have n1_ : Aside0 (Kd.R (Kd.int .i64) 3 ((w59.setCell ⟨gb257, 0, none⟩ (.slice Ao60 t252.length co60)).setCell ⟨gb257, 1, none⟩ (.int .i64 t255)) w.heap.size (fun k_ => some k_ ≠ (.slice Ao36 t234.length co36 : Value).ownBlock ∧ some k_ ≠ (.slice Ao51 t246.length co51 : Value).ownBlock ∧ some k_ ≠ (.slice Ao60 t252.length co60 : Value).ownBlock) (.slice Ao43 t240.length co43) t240) := ⟨by exact qR (Kd.R_mono (Kd.R_far (p := ⟨gb257, 1, none⟩) (Kd.R_far (p := ⟨gb257, 0, none⟩) (Kd.R_types HO242.out BK257.out (by decide)) (fun _ hk => hk.2) (.slice Ao60 t252.length co60)) (fun _ hk => hk.2) (.int .i64 t255)) (fun _ hk => ⟨hk.1.1.1.2, ⟨hk.1.1.2, hk.1.2⟩⟩))⟩
    have n2_ : Aside0 (Kd.R (Kd.int .i64) 3 ((w59.setCell ⟨gb257, 0, none⟩ (.slice Ao60 t252.length co60)).setCell ⟨gb257, 1, none⟩ (.int .i64 t255)) w.heap.size (fun k_ => some k_ ≠ (.slice Ao36 t234.length co36 : Value).ownBlock ∧ some k_ ≠ (.slice Ao43 t240.length co43 : Value).ownBlock ∧ some k_ ≠ (.slice Ao60 t252.length co60 : Value).ownBlock) (.slice Ao51 t246.length co51) t246) := ⟨by exact qR (Kd.R_mono (Kd.R_far (p := ⟨gb257, 1, none⟩) (Kd.R_far (p := ⟨gb257, 0, none⟩) (Kd.R_types HO248.out BK257.out (by decide)) (fun _ hk => hk.2) (.slice Ao60 t252.length co60)) (fun _ hk => hk.2) (.int .i64 t255)) (fun _ hk => ⟨hk.1.1.1.2, ⟨hk.1.1.2, hk.1.2⟩⟩))⟩
    have n3_ : Aside0 (Kd.R (Kd.int .i64) 3 ((w59.setCell ⟨gb257, 0, none⟩ (.slice Ao60 t252.length co60)).setCell ⟨gb257, 1, none⟩ (.int .i64 t255)) w.heap.size (fun k_ => some k_ ≠ (.slice Ao36 t234.length co36 : Value).ownBlock ∧ some k_ ≠ (.slice Ao43 t240.length co43 : Value).ownBlock ∧ some k_ ≠ (.slice Ao51 t246.length co51 : Value).ownBlock) (.slice Ao60 t252.length co60) t252) := ⟨by exact qR (Kd.R_mono (Kd.R_far (p := ⟨gb257, 1, none⟩) (Kd.R_far (p := ⟨gb257, 0, none⟩) (Kd.R_types HO254.out BK257.out (by decide)) (fun _ hk => hk.2) (.slice Ao60 t252.length co60)) (fun _ hk => hk.2) (.int .i64 t255)) (fun _ hk => ⟨hk.1.1.1.2, ⟨hk.1.1.2, hk.1.2⟩⟩))⟩
    have n4_ : Aside0 (((w59.setCell ⟨gb257, 0, none⟩ (.slice Ao60 t252.length co60)).setCell ⟨gb257, 1, none⟩ (.int .i64 t255)).heap[gb230]? = some (.cells #[.slice A0_0 l0_0.length c0_0, .int .i64 a0_1] 24 (0, 0))) := ⟨by (with_reducible repeat (first | refine blk_drewN ?_ _ | refine blk_drew ?_ | refine blk_alloc ?_ _)); refine blk_far ?_ NB230_257.out _; (with_reducible repeat (first | refine blk_drewN ?_ _ | refine blk_drew ?_ | refine blk_alloc ?_ _)); refine blk_far ?_ NB230_257.out _; exact qB BK230.out⟩
    have n5_ : Aside0 (((w59.setCell ⟨gb257, 0, none⟩ (.slice Ao60 t252.length co60)).setCell ⟨gb257, 1, none⟩ (.int .i64 t255)).heap[gb231]? = some (.cells #[.int .i64 a2_0, .int .i64 a2_1] 25 (0, 0))) := ⟨by (with_reducible repeat (first | refine blk_drewN ?_ _ | refine blk_drew ?_ | refine blk_alloc ?_ _)); refine blk_far ?_ NB231_257.out _; (with_reducible repeat (first | refine blk_drewN ?_ _ | refine blk_drew ?_ | refine blk_alloc ?_ _)); refine blk_far ?_ NB231_257.out _; exact qB BK231.out⟩
    have n6_ : Aside0 (((w59.setCell ⟨gb257, 0, none⟩ (.slice Ao60 t252.length co60)).setCell ⟨gb257, 1, none⟩ (.int .i64 t255)).heap[gb239]? = some (.cells #[.slice Ao36 t234.length co36, .int .i64 t237] 24 (0, 0))) := ⟨by (with_reducible repeat (first | refine blk_drewN ?_ _ | refine blk_drew ?_ | refine blk_alloc ?_ _)); refine blk_far ?_ NB239_257.out _; (with_reducible repeat (first | refine blk_drewN ?_ _ | refine blk_drew ?_ | refine blk_alloc ?_ _)); refine blk_far ?_ NB239_257.out _; exact qB BK239.out⟩
    have n7_ : Aside0 (((w59.setCell ⟨gb257, 0, none⟩ (.slice Ao60 t252.length co60)).setCell ⟨gb257, 1, none⟩ (.int .i64 t255)).heap[gb245]? = some (.cells #[.slice Ao43 t240.length co43, .int .i64 t243] 24 (0, 0))) := ⟨by (with_reducible repeat (first | refine blk_drewN ?_ _ | refine blk_drew ?_ | refine blk_alloc ?_ _)); refine blk_far ?_ NB245_257.out _; (with_reducible repeat (first | refine blk_drewN ?_ _ | refine blk_drew ?_ | refine blk_alloc ?_ _)); refine blk_far ?_ NB245_257.out _; exact qB BK245.out⟩
    have n8_ : Aside0 (((w59.setCell ⟨gb257, 0, none⟩ (.slice Ao60 t252.length co60)).setCell ⟨gb257, 1, none⟩ (.int .i64 t255)).heap[gb251]? = some (.cells #[.slice Ao51 t246.length co51, .int .i64 t249] 24 (0, 0))) := ⟨by (with_reducible repeat (first | refine blk_drewN ?_ _ | refine blk_drew ?_ | refine blk_alloc ?_ _)); refine blk_far ?_ NB251_257.out _; (with_reducible repeat (first | refine blk_drewN ?_ _ | refine blk_drew ?_ | refine blk_alloc ?_ _)); refine blk_far ?_ NB251_257.out _; exact qB BK251.out⟩
    have n9_ : Aside0 (((w59.setCell ⟨gb257, 0, none⟩ (.slice Ao60 t252.length co60)).setCell ⟨gb257, 1, none⟩ (.int .i64 t255)).heap[gb257]? = some (.cells #[.slice Ao60 t252.length co60, .int .i64 t255] 24 (0, 0))) := ⟨by (with_reducible repeat (first | refine blk_drewN ?_ _ | refine blk_drew ?_ | refine blk_alloc ?_ _)); refine blk_put (cs := #[.slice Ao60 t252.length co60, .int .i64 0]) ?_ 1 _ rfl; (with_reducible repeat (first | refine blk_drewN ?_ _ | refine blk_drew ?_ | refine blk_alloc ?_ _)); refine blk_put (cs := #[.slice none 0 0, .int .i64 0]) ?_ 0 _ rfl; exact qB BK257.out⟩
    have n10_ : Aside0 (Below w.heap.size w ((w59.setCell ⟨gb257, 0, none⟩ (.slice Ao60 t252.length co60)).setCell ⟨gb257, 1, none⟩ (.int .i64 t255))) := ⟨by repeat (first | (with_reducible first | exact HB.out | apply below_alloc | apply pw_below_drewN | apply below_drew1 | refine below_set ?_ GE230.out | refine below_set ?_ GE231.out | refine below_set ?_ GE239.out | refine below_set ?_ GE245.out | refine below_set ?_ GE251.out | refine below_set ?_ GE257.out) | exact HB.out)⟩
    (try clear HO236); (try clear HO242); (try clear HO248); (try clear HO254); (try clear BK230); (try clear BK231); (try clear BK239); (try clear BK245); (try clear BK251); (try clear BK257); (try clear HB)
    generalize ((w59.setCell ⟨gb257, 0, none⟩ (.slice Ao60 t252.length co60)).setCell ⟨gb257, 1, none⟩ (.int .i64 t255)) = w67 at n0_ n1_ n2_ n3_ n4_ n5_ n6_ n7_ n8_ n9_ n10_ ⊢
    have HO236 := n0_
    have HO242 := n1_
    have HO248 := n2_
    have HO254 := n3_
    have BK230 := n4_
    have BK231 := n5_
    have BK239 := n6_
    have BK245 := n7_
    have BK251 := n8_
    have BK257 := n9_
    have HB := n10_
    clear n0_ n1_ n2_ n3_ n4_ n5_ n6_ n7_ n8_ n9_ n10_
    have n0_ := Aside0.mk (Kd.R_drew HO236.out)
    have n1_ := Aside0.mk (Kd.R_drew HO242.out)
    have n2_ := Aside0.mk (Kd.R_drew HO248.out)
    have n3_ := Aside0.mk (Kd.R_drew HO254.out)
    have n4_ := Aside0.mk (blk_drew BK230.out)
    have n5_ := Aside0.mk (blk_drew BK231.out)
    have n6_ := Aside0.mk (blk_drew BK239.out)
    have n7_ := Aside0.mk (blk_drew BK245.out)
    have n8_ := Aside0.mk (blk_drew BK251.out)
    have n9_ := Aside0.mk (blk_drew BK257.out)
    have n10_ := Aside0.mk (below_drew1 HB.out)
    clear HO236 HO242 HO248 HO254 BK230 BK231 BK239 BK245 BK251 BK257 HB
    have HO236 := n0_
    have HO242 := n1_
    have HO248 := n2_
    have HO254 := n3_
    have BK230 := n4_
    have BK231 := n5_
    have BK239 := n6_
    have BK245 := n7_
    have BK251 := n8_
    have BK257 := n9_
    have HB := n10_
    clear n0_ n1_ n2_ n3_ n4_ n5_ n6_ n7_ n8_ n9_ n10_
    refine start_ (n := 40) (S := fun w' => w'.cell? ⟨gb230, 0, none⟩ = some (.slice A0_0 l0_0.length c0_0) ∧ w'.cell? ⟨gb230, 1, none⟩ = some (.int .i64 a0_1) ∧ w'.cell? ⟨gb231, 0, none⟩ = some (.int .i64 a2_0) ∧ w'.cell? ⟨gb231, 1, none⟩ = some (.int .i64 a2_1) ∧ w'.cell? ⟨gb239, 0, none⟩ = some (.slice Ao36 t234.length co36) ∧ w'.cell? ⟨gb239, 1, none⟩ = some (.int .i64 t237) ∧ w'.cell? ⟨gb245, 0, none⟩ = some (.slice Ao43 t240.length co43) ∧ w'.cell? ⟨gb245, 1, none⟩ = some (.int .i64 t243) ∧ w'.cell? ⟨gb251, 0, none⟩ = some (.slice Ao51 t246.length co51) ∧ w'.cell? ⟨gb251, 1, none⟩ = some (.int .i64 t249) ∧ w'.cell? ⟨gb257, 0, none⟩ = some (.slice Ao60 t252.length co60) ∧ w'.cell? ⟨gb257, 1, none⟩ = some (.int .i64 t255)) (ds := []) #[false, false, false, false, false, false, false, false, false, false, false, false, false, false, false, false, false, false, false, false, false, false, false, false, false, false, false, false, false, false, false, false, false, false, false, false, false, false, false, false] (by kernel_rfl) rfl rfl ⟨(blk_cell BK230.out 0).trans rfl, (blk_cell BK230.out 1).trans rfl, (blk_cell BK231.out 0).trans rfl, (blk_cell BK231.out 1).trans rfl, (blk_cell BK239.out 0).trans rfl, (blk_cell BK239.out 1).trans rfl, (blk_cell BK245.out 0).trans rfl, (blk_cell BK245.out 1).trans rfl, (blk_cell BK251.out 0).trans rfl, (blk_cell BK251.out 1).trans rfl, (blk_cell BK257.out 0).trans rfl, (blk_cell BK257.out 1).trans rfl⟩ (fun hHeld => ?_); refine with_tabW standbylaw55_CurveMakes.tab7 standbylaw55_CurveMakes.bits7 (fun HT_ HW_ => ?_)
    generalize w67.drew = w68 at HO236 HO242 HO248 HO254 BK230 BK231 BK239 BK245 BK251 BK257 HB hHeld ⊢
    refine take_ (i := 0) (N := some 53) (v := ?_) (a' := ?_) #[true, false, false, false, false, false, false, false, false, false, false, false, false, false, false, false, false, false, false, false, false, false, false, false, false, false, false, false, false, false, false, false, false, false, false, false, false, false, false, false] rfl rfl (take_ofW HT_.out HW_.out (by kernel_rfl)) (fun _ _ _ h => h) (Or.inl ⟨by rfl, ?_⟩) hHeld ?_ ?_; rotate_left
    ·rintro w' ⟨s0, s1, s2, s3, s4, s5, s6, s7, s8, s9, s10, s11⟩
     go_simp
     with_reducible rfl
    rotate_left
    ·simp only [Act.put, List.setIfInBounds_toArray, List.set_cons_zero, List.set_cons_succ, i64_w, i32_w]
     rfl
    refine take_ (i := 2) (N := some 55) (v := ?_) (a' := ?_) #[true, false, true, false, false, false, false, false, false, false, false, false, false, false, false, false, false, false, false, false, false, false, false, false, false, false, false, false, false, false, false, false, false, false, false, false, false, false, false, false] rfl rfl (take_ofW HT_.out HW_.out (by kernel_rfl)) (fun _ _ _ h => h) (Or.inl ⟨by rfl, ?_⟩) hHeld ?_ ?_; rotate_left
    ·rintro w' ⟨s0, s1, s2, s3, s4, s5, s6, s7, s8, s9, s10, s11⟩
     go_simp
     with_reducible rfl
    rotate_left
    ·simp only [Act.put, List.setIfInBounds_toArray, List.set_cons_zero, List.set_cons_succ, i64_w, i32_w]
     rfl
    refine one_ (i := 1) (N := some 54) #[true, true, true, false, false, false, false, false, false, false, false, false, false, false, false, false, false, false, false, false, false, false, false, false, false, false, false, false, false, false, false, false, false, false, false, false, false, false, false, false] rfl rfl (one_of HT_.out (by kernel_rfl)) (by decide) (fun K hK => ?_)
    refine goes_ Try.func16 (by kernel_rfl) rfl #[.agg #[.slice A0_0 l0_0.length c0_0, .int .i64 a0_1]] (by rfl) rfl rfl (by (try simp only [List.map_toArray, List.map_cons, List.map_nil]); first | done | rfl | (simp only [List.length_drop, List.length_take]; rfl)) ?_
    with_reducible refine (curve_Check.calls kj3 _ _ l0_0 a0_1 t258 _ ?side1 ?side2 A19.out).mono ?_
    (case side1 => exact qC HR0_0.out HB.out)
    (case side2 => exact HC0_0.out)
    rintro e w69 ⟨rfl, hb⟩
    refine ⟨_, rfl, ?_⟩
    have n0_ := Aside0.mk (Kd.R_below (qR HO236.out) hb)
    have n1_ := Aside0.mk (Kd.R_below (qR HO242.out) hb)
    have n2_ := Aside0.mk (Kd.R_below (qR HO248.out) hb)
    have n3_ := Aside0.mk (Kd.R_below (qR HO254.out) hb)
    have n4_ := Aside0.mk (blk_below (qB BK230.out) hb)
    have n5_ := Aside0.mk (blk_below (qB BK231.out) hb)
    have n6_ := Aside0.mk (blk_below (qB BK239.out) hb)
    have n7_ := Aside0.mk (blk_below (qB BK245.out) hb)
    have n8_ := Aside0.mk (blk_below (qB BK251.out) hb)
    have n9_ := Aside0.mk (blk_below (qB BK257.out) hb)
    have n10_ := Aside0.mk (below_step (qW HB.out) hb)
    clear HO236 HO242 HO248 HO254 BK230 BK231 BK239 BK245 BK251 BK257 HB
    have HO236 := n0_
    have HO242 := n1_
    have HO248 := n2_
    have HO254 := n3_
    have BK230 := n4_
    have BK231 := n5_
    have BK239 := n6_
    have BK245 := n7_
    have BK251 := n8_
    have BK257 := n9_
    have HB := n10_
    clear n0_ n1_ n2_ n3_ n4_ n5_ n6_ n7_ n8_ n9_ n10_
    (try clear hb); (try clear hb2); (try clear hk); (try clear hi)
    refine hK.out _ _ ⟨(blk_cell BK230.out 0).trans rfl, (blk_cell BK230.out 1).trans rfl, (blk_cell BK231.out 0).trans rfl, (blk_cell BK231.out 1).trans rfl, (blk_cell BK239.out 0).trans rfl, (blk_cell BK239.out 1).trans rfl, (blk_cell BK245.out 0).trans rfl, (blk_cell BK245.out 1).trans rfl, (blk_cell BK251.out 0).trans rfl, (blk_cell BK251.out 1).trans rfl, (blk_cell BK257.out 0).trans rfl, (blk_cell BK257.out 1).trans rfl⟩ (fun hHeld => ?_); clear hK K
    refine norm_ (a' := ?_) ?_ ?_; rotate_left
    ·show Act.put _ (some 54) _ = _
     simp only [Act.put, List.setIfInBounds_toArray, List.set_cons_zero, List.set_cons_succ, i64_w, i32_w]
     rfl
    refine one_ (i := 3) (N := some 56) #[true, true, true, true, false, false, false, false, false, false, false, false, false, false, false, false, false, false, false, false, false, false, false, false, false, false, false, false, false, false, false, false, false, false, false, false, false, false, false, false] rfl rfl (one_of HT_.out (by kernel_rfl)) (by decide) (fun K hK => ?_)
    refine goes_ Try.func17 (by kernel_rfl) rfl #[.agg #[.slice A0_0 l0_0.length c0_0, .int .i64 a0_1]] (by rfl) rfl rfl (by (try simp only [List.map_toArray, List.map_cons, List.map_nil]); first | done | rfl | (simp only [List.length_drop, List.length_take]; rfl)) ?_
    with_reducible refine (standbyref55_Check.calls kj3 _ _ l0_0 a0_1 t259 _ ?side1 ?side2 A20.out).mono ?_
    (case side1 => exact qC HR0_0.out HB.out)
    (case side2 => exact HC0_0.out)
    rintro e w70 ⟨rfl, hb⟩
    refine ⟨_, rfl, ?_⟩
    have n0_ := Aside0.mk (Kd.R_below (qR HO236.out) hb)
    have n1_ := Aside0.mk (Kd.R_below (qR HO242.out) hb)
    have n2_ := Aside0.mk (Kd.R_below (qR HO248.out) hb)
    have n3_ := Aside0.mk (Kd.R_below (qR HO254.out) hb)
    have n4_ := Aside0.mk (blk_below (qB BK230.out) hb)
    have n5_ := Aside0.mk (blk_below (qB BK231.out) hb)
    have n6_ := Aside0.mk (blk_below (qB BK239.out) hb)
    have n7_ := Aside0.mk (blk_below (qB BK245.out) hb)
    have n8_ := Aside0.mk (blk_below (qB BK251.out) hb)
    have n9_ := Aside0.mk (blk_below (qB BK257.out) hb)
    have n10_ := Aside0.mk (below_step (qW HB.out) hb)
    clear HO236 HO242 HO248 HO254 BK230 BK231 BK239 BK245 BK251 BK257 HB
    have HO236 := n0_
    have HO242 := n1_
    have HO248 := n2_
    have HO254 := n3_
    have BK230 := n4_
    have BK231 := n5_
    have BK239 := n6_
    have BK245 := n7_
    have BK251 := n8_
    have BK257 := n9_
    have HB := n10_
    clear n0_ n1_ n2_ n3_ n4_ n5_ n6_ n7_ n8_ n9_ n10_
    (try clear hb); (try clear hb2); (try clear hk); (try clear hi)
    refine hK.out _ _ ⟨(blk_cell BK230.out 0).trans rfl, (blk_cell BK230.out 1).trans rfl, (blk_cell BK231.out 0).trans rfl, (blk_cell BK231.out 1).trans rfl, (blk_cell BK239.out 0).trans rfl, (blk_cell BK239.out 1).trans rfl, (blk_cell BK245.out 0).trans rfl, (blk_cell BK245.out 1).trans rfl, (blk_cell BK251.out 0).trans rfl, (blk_cell BK251.out 1).trans rfl, (blk_cell BK257.out 0).trans rfl, (blk_cell BK257.out 1).trans rfl⟩ (fun hHeld => ?_); clear hK K
    refine norm_ (a' := ?_) ?_ ?_; rotate_left
    ·show Act.put _ (some 56) _ = _
     simp only [Act.put, List.setIfInBounds_toArray, List.set_cons_zero, List.set_cons_succ, i64_w, i32_w]
     rfl
    refine pS (i := 4) (N := some 57) #[true, true, true, true, true, false, false, false, false, false, false, false, false, false, false, false, false, false, false, false, false, false, false, false, false, false, false, false, false, false, false, false, false, false, false, false, false, false, false, false] rfl rfl HT_.out ?_
    refine pS (i := 5) (N := some 58) #[true, true, true, true, true, true, false, false, false, false, false, false, false, false, false, false, false, false, false, false, false, false, false, false, false, false, false, false, false, false, false, false, false, false, false, false, false, false, false, false] rfl rfl HT_.out ?_
    refine pS (i := 7) (N := some 60) #[true, true, true, true, true, true, false, true, false, false, false, false, false, false, false, false, false, false, false, false, false, false, false, false, false, false, false, false, false, false, false, false, false, false, false, false, false, false, false, false] rfl rfl HT_.out ?_
    refine pS (i := 11) (N := some 64) #[true, true, true, true, true, true, false, true, false, false, false, true, false, false, false, false, false, false, false, false, false, false, false, false, false, false, false, false, false, false, false, false, false, false, false, false, false, false, false, false] rfl rfl HT_.out ?_
    refine take_ (i := 6) (N := some 59) (v := ?_) (a' := ?_) #[true, true, true, true, true, true, true, true, false, false, false, true, false, false, false, false, false, false, false, false, false, false, false, false, false, false, false, false, false, false, false, false, false, false, false, false, false, false, false, false] rfl rfl (take_ofW HT_.out HW_.out (by kernel_rfl)) (fun _ _ _ h => h) (Or.inl ⟨by rfl, ?_⟩) hHeld ?_ ?_; rotate_left
    ·rintro w' ⟨s0, s1, s2, s3, s4, s5, s6, s7, s8, s9, s10, s11⟩
     go_simp
     with_reducible rfl
    rotate_left
    ·simp only [Act.put, List.setIfInBounds_toArray, List.set_cons_zero, List.set_cons_succ, i64_w, i32_w]
     rfl
    refine take_ (i := 8) (N := some 61) (v := ?_) (a' := ?_) #[true, true, true, true, true, true, true, true, true, false, false, true, false, false, false, false, false, false, false, false, false, false, false, false, false, false, false, false, false, false, false, false, false, false, false, false, false, false, false, false] rfl rfl (take_ofW HT_.out HW_.out (by kernel_rfl)) (fun _ _ _ h => h) (Or.inl ⟨by rfl, ?_⟩) hHeld ?_ ?_; rotate_left
    ·rintro w' ⟨s0, s1, s2, s3, s4, s5, s6, s7, s8, s9, s10, s11⟩
     go_simp
     with_reducible rfl
    rotate_left
    ·simp only [Act.put, List.setIfInBounds_toArray, List.set_cons_zero, List.set_cons_succ, i64_w, i32_w]
     rfl
    refine take_ (i := 10) (N := some 63) (v := ?_) (a' := ?_) #[true, true, true, true, true, true, true, true, true, false, true, true, false, false, false, false, false, false, false, false, false, false, false, false, false, false, false, false, false, false, false, false, false, false, false, false, false, false, false, false] rfl rfl (take_ofW HT_.out HW_.out (by kernel_rfl)) (fun _ _ _ h => h) (Or.inl ⟨by rfl, ?_⟩) hHeld ?_ ?_; rotate_left
    ·rintro w' ⟨s0, s1, s2, s3, s4, s5, s6, s7, s8, s9, s10, s11⟩
     go_simp
     with_reducible rfl
    rotate_left
    ·simp only [Act.put, List.setIfInBounds_toArray, List.set_cons_zero, List.set_cons_succ, i64_w, i32_w]
     rfl
    refine take_ (i := 12) (N := some 65) (v := ?_) (a' := ?_) #[true, true, true, true, true, true, true, true, true, false, true, true, true, false, false, false, false, false, false, false, false, false, false, false, false, false, false, false, false, false, false, false, false, false, false, false, false, false, false, false] rfl rfl (take_ofW HT_.out HW_.out (by kernel_rfl)) (fun _ _ _ h => h) (Or.inl ⟨by rfl, ?_⟩) hHeld ?_ ?_; rotate_left
    ·rintro w' ⟨s0, s1, s2, s3, s4, s5, s6, s7, s8, s9, s10, s11⟩
     go_simp
     with_reducible rfl
    rotate_left
    ·simp only [Act.put, List.setIfInBounds_toArray, List.set_cons_zero, List.set_cons_succ, i64_w, i32_w]
     rfl
    refine one_ (i := 9) (N := some 62) #[true, true, true, true, true, true, true, true, true, true, true, true, true, false, false, false, false, false, false, false, false, false, false, false, false, false, false, false, false, false, false, false, false, false, false, false, false, false, false, false] rfl rfl (one_of HT_.out (by kernel_rfl)) (by decide) (fun K hK => ?_)
    refine goes_ Try.func18 (by kernel_rfl) rfl #[.agg #[.slice A0_0 l0_0.length c0_0, .int .i64 a0_1], .int .i64 a2_1] (by rfl) rfl rfl (by (try simp only [List.map_toArray, List.map_cons, List.map_nil]); first | done | rfl | (simp only [List.length_drop, List.length_take]; rfl)) ?_
    with_reducible refine (curve_At.calls kj3 _ _ l0_0 a0_1 a2_1 t260 _ ?side1 ?side2 A22.out).mono ?_
    (case side1 => exact qC HR0_0.out HB.out)
    (case side2 => exact HC0_0.out)
    rintro e w71 ⟨rfl, hb⟩
    refine ⟨_, rfl, ?_⟩
    have n0_ := Aside0.mk (Kd.R_below (qR HO236.out) hb)
    have n1_ := Aside0.mk (Kd.R_below (qR HO242.out) hb)
    have n2_ := Aside0.mk (Kd.R_below (qR HO248.out) hb)
    have n3_ := Aside0.mk (Kd.R_below (qR HO254.out) hb)
    have n4_ := Aside0.mk (blk_below (qB BK230.out) hb)
    have n5_ := Aside0.mk (blk_below (qB BK231.out) hb)
    have n6_ := Aside0.mk (blk_below (qB BK239.out) hb)
    have n7_ := Aside0.mk (blk_below (qB BK245.out) hb)
    have n8_ := Aside0.mk (blk_below (qB BK251.out) hb)
    have n9_ := Aside0.mk (blk_below (qB BK257.out) hb)
    have n10_ := Aside0.mk (below_step (qW HB.out) hb)
    clear HO236 HO242 HO248 HO254 BK230 BK231 BK239 BK245 BK251 BK257 HB
    have HO236 := n0_
    have HO242 := n1_
    have HO248 := n2_
    have HO254 := n3_
    have BK230 := n4_
    have BK231 := n5_
    have BK239 := n6_
    have BK245 := n7_
    have BK251 := n8_
    have BK257 := n9_
    have HB := n10_
    clear n0_ n1_ n2_ n3_ n4_ n5_ n6_ n7_ n8_ n9_ n10_
    (try clear hb); (try clear hb2); (try clear hk); (try clear hi)
    refine hK.out _ _ ⟨(blk_cell BK230.out 0).trans rfl, (blk_cell BK230.out 1).trans rfl, (blk_cell BK231.out 0).trans rfl, (blk_cell BK231.out 1).trans rfl, (blk_cell BK239.out 0).trans rfl, (blk_cell BK239.out 1).trans rfl, (blk_cell BK245.out 0).trans rfl, (blk_cell BK245.out 1).trans rfl, (blk_cell BK251.out 0).trans rfl, (blk_cell BK251.out 1).trans rfl, (blk_cell BK257.out 0).trans rfl, (blk_cell BK257.out 1).trans rfl⟩ (fun hHeld => ?_); clear hK K
    refine norm_ (a' := ?_) ?_ ?_; rotate_left
    ·show Act.put _ (some 62) _ = _
     simp only [Act.put, List.setIfInBounds_toArray, List.set_cons_zero, List.set_cons_succ, i64_w, i32_w]
     rfl
    refine one_ (i := 13) (N := some 66) #[true, true, true, true, true, true, true, true, true, true, true, true, true, true, false, false, false, false, false, false, false, false, false, false, false, false, false, false, false, false, false, false, false, false, false, false, false, false, false, false] rfl rfl (one_of HT_.out (by kernel_rfl)) (by decide) (fun K hK => ?_)
    refine goes_ Try.func19 (by kernel_rfl) rfl #[.agg #[.slice A0_0 l0_0.length c0_0, .int .i64 a0_1], .int .i64 a2_1] (by rfl) rfl rfl (by (try simp only [List.map_toArray, List.map_cons, List.map_nil]); first | done | rfl | (simp only [List.length_drop, List.length_take]; rfl)) ?_
    with_reducible refine (standbyref55_At.calls kj3 _ _ l0_0 a0_1 a2_1 t261 _ ?side1 ?side2 A23.out).mono ?_
    (case side1 => exact qC HR0_0.out HB.out)
    (case side2 => exact HC0_0.out)
    rintro e w72 ⟨rfl, hb⟩
    refine ⟨_, rfl, ?_⟩
    have n0_ := Aside0.mk (Kd.R_below (qR HO236.out) hb)
    have n1_ := Aside0.mk (Kd.R_below (qR HO242.out) hb)
    have n2_ := Aside0.mk (Kd.R_below (qR HO248.out) hb)
    have n3_ := Aside0.mk (Kd.R_below (qR HO254.out) hb)
    have n4_ := Aside0.mk (blk_below (qB BK230.out) hb)
    have n5_ := Aside0.mk (blk_below (qB BK231.out) hb)
    have n6_ := Aside0.mk (blk_below (qB BK239.out) hb)
    have n7_ := Aside0.mk (blk_below (qB BK245.out) hb)
    have n8_ := Aside0.mk (blk_below (qB BK251.out) hb)
    have n9_ := Aside0.mk (blk_below (qB BK257.out) hb)
    have n10_ := Aside0.mk (below_step (qW HB.out) hb)
    clear HO236 HO242 HO248 HO254 BK230 BK231 BK239 BK245 BK251 BK257 HB
    have HO236 := n0_
    have HO242 := n1_
    have HO248 := n2_
    have HO254 := n3_
    have BK230 := n4_
    have BK231 := n5_
    have BK239 := n6_
    have BK245 := n7_
    have BK251 := n8_
    have BK257 := n9_
    have HB := n10_
    clear n0_ n1_ n2_ n3_ n4_ n5_ n6_ n7_ n8_ n9_ n10_
    (try clear hb); (try clear hb2); (try clear hk); (try clear hi)
    refine hK.out _ _ ⟨(blk_cell BK230.out 0).trans rfl, (blk_cell BK230.out 1).trans rfl, (blk_cell BK231.out 0).trans rfl, (blk_cell BK231.out 1).trans rfl, (blk_cell BK239.out 0).trans rfl, (blk_cell BK239.out 1).trans rfl, (blk_cell BK245.out 0).trans rfl, (blk_cell BK245.out 1).trans rfl, (blk_cell BK251.out 0).trans rfl, (blk_cell BK251.out 1).trans rfl, (blk_cell BK257.out 0).trans rfl, (blk_cell BK257.out 1).trans rfl⟩ (fun hHeld => ?_); clear hK K
    refine norm_ (a' := ?_) ?_ ?_; rotate_left
    ·show Act.put _ (some 66) _ = _
     simp only [Act.put, List.setIfInBounds_toArray, List.set_cons_zero, List.set_cons_succ, i64_w, i32_w]
     rfl
    refine pS (i := 14) (N := some 67) #[true, true, true, true, true, true, true, true, true, true, true, true, true, true, true, false, false, false, false, false, false, false, false, false, false, false, false, false, false, false, false, false, false, false, false, false, false, false, false, false] rfl rfl HT_.out ?_
    refine pS (i := 15) (N := some 68) #[true, true, true, true, true, true, true, true, true, true, true, true, true, true, true, true, false, false, false, false, false, false, false, false, false, false, false, false, false, false, false, false, false, false, false, false, false, false, false, false] rfl rfl HT_.out ?_
    refine pS (i := 16) (N := some 69) #[true, true, true, true, true, true, true, true, true, true, true, true, true, true, true, true, true, false, false, false, false, false, false, false, false, false, false, false, false, false, false, false, false, false, false, false, false, false, false, false] rfl rfl HT_.out ?_
    refine take_ (i := 17) (N := some 70) (v := ?_) (a' := ?_) #[true, true, true, true, true, true, true, true, true, true, true, true, true, true, true, true, true, true, false, false, false, false, false, false, false, false, false, false, false, false, false, false, false, false, false, false, false, false, false, false] rfl rfl (take_ofW HT_.out HW_.out (by kernel_rfl)) (fun _ _ _ h => h) (Or.inl ⟨by rfl, ?_⟩) hHeld ?_ ?_; rotate_left
    ·rintro w' ⟨s0, s1, s2, s3, s4, s5, s6, s7, s8, s9, s10, s11⟩
     go_simp
     with_reducible rfl
    rotate_left
    ·simp only [Act.put, List.setIfInBounds_toArray, List.set_cons_zero, List.set_cons_succ, i64_w, i32_w]
     rfl
    refine take_ (i := 18) (N := some 71) (v := ?_) (a' := ?_) #[true, true, true, true, true, true, true, true, true, true, true, true, true, true, true, true, true, true, true, false, false, false, false, false, false, false, false, false, false, false, false, false, false, false, false, false, false, false, false, false] rfl rfl (take_ofW HT_.out HW_.out (by kernel_rfl)) (fun _ _ _ h => h) (Or.inl ⟨by rfl, ?_⟩) hHeld ?_ ?_; rotate_left
    ·rintro w' ⟨s0, s1, s2, s3, s4, s5, s6, s7, s8, s9, s10, s11⟩
     go_simp
     with_reducible rfl
    rotate_left
    ·simp only [Act.put, List.setIfInBounds_toArray, List.set_cons_zero, List.set_cons_succ, i64_w, i32_w]
     rfl
    refine one_ (i := 19) (N := some 72) #[true, true, true, true, true, true, true, true, true, true, true, true, true, true, true, true, true, true, true, true, false, false, false, false, false, false, false, false, false, false, false, false, false, false, false, false, false, false, false, false] rfl rfl (one_of HT_.out (by kernel_rfl)) (by decide) (fun K hK => ?_)
    refine goes_ Try.func20 (by kernel_rfl) rfl #[.agg #[.slice Ao36 t234.length co36, .int .i64 t237], .agg #[.slice Ao43 t240.length co43, .int .i64 t243]] (by rfl) rfl rfl (by (try simp only [List.map_toArray, List.map_cons, List.map_nil]); first | done | rfl | (simp only [List.length_drop, List.length_take]; rfl)) ?_
    with_reducible refine (standbyref55_Same.calls kj3 _ _ t234 t237 _ _ t240 t243 true _ ?side1 ?side2 ?side3 ?side4 A25.out).mono ?_
    (case side1 => repeat (first | exact (Kd.R_reads' HO236.out).2.2 | (with_reducible refine Kd.C_alloc ?_ _) | (with_reducible refine Kd.C_drewN ?_ _) | (with_reducible refine Kd.C_drew ?_)))
    (case side2 => exact (Kd.R_reads' HO236.out).2.1)
    (case side3 => repeat (first | exact (Kd.R_reads' HO242.out).2.2 | (with_reducible refine Kd.C_alloc ?_ _) | (with_reducible refine Kd.C_drewN ?_ _) | (with_reducible refine Kd.C_drew ?_)))
    (case side4 => exact (Kd.R_reads' HO242.out).2.1)
    rintro e w73 ⟨rfl, hb⟩
    refine ⟨_, rfl, ?_⟩
    have n0_ := Aside0.mk (Kd.R_below (qR HO236.out) hb)
    have n1_ := Aside0.mk (Kd.R_below (qR HO242.out) hb)
    have n2_ := Aside0.mk (Kd.R_below (qR HO248.out) hb)
    have n3_ := Aside0.mk (Kd.R_below (qR HO254.out) hb)
    have n4_ := Aside0.mk (blk_below (qB BK230.out) hb)
    have n5_ := Aside0.mk (blk_below (qB BK231.out) hb)
    have n6_ := Aside0.mk (blk_below (qB BK239.out) hb)
    have n7_ := Aside0.mk (blk_below (qB BK245.out) hb)
    have n8_ := Aside0.mk (blk_below (qB BK251.out) hb)
    have n9_ := Aside0.mk (blk_below (qB BK257.out) hb)
    have n10_ := Aside0.mk (below_step (qW HB.out) hb)
    clear HO236 HO242 HO248 HO254 BK230 BK231 BK239 BK245 BK251 BK257 HB
    have HO236 := n0_
    have HO242 := n1_
    have HO248 := n2_
    have HO254 := n3_
    have BK230 := n4_
    have BK231 := n5_
    have BK239 := n6_
    have BK245 := n7_
    have BK251 := n8_
    have BK257 := n9_
    have HB := n10_
    clear n0_ n1_ n2_ n3_ n4_ n5_ n6_ n7_ n8_ n9_ n10_
    (try clear hb); (try clear hb2); (try clear hk); (try clear hi)
    refine hK.out _ _ ⟨(blk_cell BK230.out 0).trans rfl, (blk_cell BK230.out 1).trans rfl, (blk_cell BK231.out 0).trans rfl, (blk_cell BK231.out 1).trans rfl, (blk_cell BK239.out 0).trans rfl, (blk_cell BK239.out 1).trans rfl, (blk_cell BK245.out 0).trans rfl, (blk_cell BK245.out 1).trans rfl, (blk_cell BK251.out 0).trans rfl, (blk_cell BK251.out 1).trans rfl, (blk_cell BK257.out 0).trans rfl, (blk_cell BK257.out 1).trans rfl⟩ (fun hHeld => ?_); clear hK K
    refine norm_ (a' := ?_) ?_ ?_; rotate_left
    ·show Act.put _ (some 72) _ = _
     simp only [Act.put, List.setIfInBounds_toArray, List.set_cons_zero, List.set_cons_succ, i64_w, i32_w]
     rfl
    refine pS (i := 20) (N := some 73) #[true, true, true, true, true, true, true, true, true, true, true, true, true, true, true, true, true, true, true, true, true, false, false, false, false, false, false, false, false, false, false, false, false, false, false, false, false, false, false, false] rfl rfl HT_.out ?_
    refine pS (i := 21) (N := some 74) #[true, true, true, true, true, true, true, true, true, true, true, true, true, true, true, true, true, true, true, true, true, true, false, false, false, false, false, false, false, false, false, false, false, false, false, false, false, false, false, false] rfl rfl HT_.out ?_
    refine pS (i := 22) (N := some 75) #[true, true, true, true, true, true, true, true, true, true, true, true, true, true, true, true, true, true, true, true, true, true, true, false, false, false, false, false, false, false, false, false, false, false, false, false, false, false, false, false] rfl rfl HT_.out ?_
    refine pS (i := 23) (N := some 76) #[true, true, true, true, true, true, true, true, true, true, true, true, true, true, true, true, true, true, true, true, true, true, true, true, false, false, false, false, false, false, false, false, false, false, false, false, false, false, false, false] rfl rfl HT_.out ?_
    refine pS (i := 24) (N := some 77) #[true, true, true, true, true, true, true, true, true, true, true, true, true, true, true, true, true, true, true, true, true, true, true, true, true, false, false, false, false, false, false, false, false, false, false, false, false, false, false, false] rfl rfl HT_.out ?_
    refine pS (i := 25) (N := some 78) #[true, true, true, true, true, true, true, true, true, true, true, true, true, true, true, true, true, true, true, true, true, true, true, true, true, true, false, false, false, false, false, false, false, false, false, false, false, false, false, false] rfl rfl HT_.out ?_
    refine pS (i := 26) (N := some 79) #[true, true, true, true, true, true, true, true, true, true, true, true, true, true, true, true, true, true, true, true, true, true, true, true, true, true, true, false, false, false, false, false, false, false, false, false, false, false, false, false] rfl rfl HT_.out ?_
    refine take_ (i := 27) (N := some 80) (v := ?_) (a' := ?_) #[true, true, true, true, true, true, true, true, true, true, true, true, true, true, true, true, true, true, true, true, true, true, true, true, true, true, true, true, false, false, false, false, false, false, false, false, false, false, false, false] rfl rfl (take_ofW HT_.out HW_.out (by kernel_rfl)) (fun _ _ _ h => h) (Or.inl ⟨by rfl, ?_⟩) hHeld ?_ ?_; rotate_left
    ·rintro w' ⟨s0, s1, s2, s3, s4, s5, s6, s7, s8, s9, s10, s11⟩
     go_simp
     with_reducible rfl
    rotate_left
    ·simp only [Act.put, List.setIfInBounds_toArray, List.set_cons_zero, List.set_cons_succ, i64_w, i32_w]
     rfl
    refine take_ (i := 28) (N := some 81) (v := ?_) (a' := ?_) #[true, true, true, true, true, true, true, true, true, true, true, true, true, true, true, true, true, true, true, true, true, true, true, true, true, true, true, true, true, false, false, false, false, false, false, false, false, false, false, false] rfl rfl (take_ofW HT_.out HW_.out (by kernel_rfl)) (fun _ _ _ h => h) (Or.inl ⟨by rfl, ?_⟩) hHeld ?_ ?_; rotate_left
    ·rintro w' ⟨s0, s1, s2, s3, s4, s5, s6, s7, s8, s9, s10, s11⟩
     go_simp
     with_reducible rfl
    rotate_left
    ·simp only [Act.put, List.setIfInBounds_toArray, List.set_cons_zero, List.set_cons_succ, i64_w, i32_w]
     rfl
    refine one_ (i := 29) (N := some 82) #[true, true, true, true, true, true, true, true, true, true, true, true, true, true, true, true, true, true, true, true, true, true, true, true, true, true, true, true, true, true, false, false, false, false, false, false, false, false, false, false] rfl rfl (one_of HT_.out (by kernel_rfl)) (by decide) (fun K hK => ?_)
    refine goes_ Try.func20 (by kernel_rfl) rfl #[.agg #[.slice Ao51 t246.length co51, .int .i64 t249], .agg #[.slice Ao60 t252.length co60, .int .i64 t255]] (by rfl) rfl rfl (by (try simp only [List.map_toArray, List.map_cons, List.map_nil]); first | done | rfl | (simp only [List.length_drop, List.length_take]; rfl)) ?_
    with_reducible refine (standbyref55_Same.calls kj3 _ _ t246 t249 _ _ t252 t255 true _ ?side1 ?side2 ?side3 ?side4 A28.out).mono ?_
    (case side1 => repeat (first | exact (Kd.R_reads' HO248.out).2.2 | (with_reducible refine Kd.C_alloc ?_ _) | (with_reducible refine Kd.C_drewN ?_ _) | (with_reducible refine Kd.C_drew ?_)))
    (case side2 => exact (Kd.R_reads' HO248.out).2.1)
    (case side3 => repeat (first | exact (Kd.R_reads' HO254.out).2.2 | (with_reducible refine Kd.C_alloc ?_ _) | (with_reducible refine Kd.C_drewN ?_ _) | (with_reducible refine Kd.C_drew ?_)))
    (case side4 => exact (Kd.R_reads' HO254.out).2.1)
    rintro e w74 ⟨rfl, hb⟩
    refine ⟨_, rfl, ?_⟩
    have n0_ := Aside0.mk (Kd.R_below (qR HO236.out) hb)
    have n1_ := Aside0.mk (Kd.R_below (qR HO242.out) hb)
    have n2_ := Aside0.mk (Kd.R_below (qR HO248.out) hb)
    have n3_ := Aside0.mk (Kd.R_below (qR HO254.out) hb)
    have n4_ := Aside0.mk (blk_below (qB BK230.out) hb)
    have n5_ := Aside0.mk (blk_below (qB BK231.out) hb)
    have n6_ := Aside0.mk (blk_below (qB BK239.out) hb)
    have n7_ := Aside0.mk (blk_below (qB BK245.out) hb)
    have n8_ := Aside0.mk (blk_below (qB BK251.out) hb)
    have n9_ := Aside0.mk (blk_below (qB BK257.out) hb)
    have n10_ := Aside0.mk (below_step (qW HB.out) hb)
    clear HO236 HO242 HO248 HO254 BK230 BK231 BK239 BK245 BK251 BK257 HB
    have HO236 := n0_
    have HO242 := n1_
    have HO248 := n2_
    have HO254 := n3_
    have BK230 := n4_
    have BK231 := n5_
    have BK239 := n6_
    have BK245 := n7_
    have BK251 := n8_
    have BK257 := n9_
    have HB := n10_
    clear n0_ n1_ n2_ n3_ n4_ n5_ n6_ n7_ n8_ n9_ n10_
    (try clear hb); (try clear hb2); (try clear hk); (try clear hi)
    refine hK.out _ _ ⟨(blk_cell BK230.out 0).trans rfl, (blk_cell BK230.out 1).trans rfl, (blk_cell BK231.out 0).trans rfl, (blk_cell BK231.out 1).trans rfl, (blk_cell BK239.out 0).trans rfl, (blk_cell BK239.out 1).trans rfl, (blk_cell BK245.out 0).trans rfl, (blk_cell BK245.out 1).trans rfl, (blk_cell BK251.out 0).trans rfl, (blk_cell BK251.out 1).trans rfl, (blk_cell BK257.out 0).trans rfl, (blk_cell BK257.out 1).trans rfl⟩ (fun hHeld => ?_); clear hK K
    refine norm_ (a' := ?_) ?_ ?_; rotate_left
    ·show Act.put _ (some 82) _ = _
     simp only [Act.put, List.setIfInBounds_toArray, List.set_cons_zero, List.set_cons_succ, i64_w, i32_w]
     rfl
    refine pS (i := 30) (N := some 83) #[true, true, true, true, true, true, true, true, true, true, true, true, true, true, true, true, true, true, true, true, true, true, true, true, true, true, true, true, true, true, true, false, false, false, false, false, false, false, false, false] rfl rfl HT_.out ?_
    refine pS (i := 31) (N := some 84) #[true, true, true, true, true, true, true, true, true, true, true, true, true, true, true, true, true, true, true, true, true, true, true, true, true, true, true, true, true, true, true, true, false, false, false, false, false, false, false, false] rfl rfl HT_.out ?_
    refine pS (i := 32) (N := some 85) #[true, true, true, true, true, true, true, true, true, true, true, true, true, true, true, true, true, true, true, true, true, true, true, true, true, true, true, true, true, true, true, true, true, false, false, false, false, false, false, false] rfl rfl HT_.out ?_
    refine pS (i := 33) (N := some 86) #[true, true, true, true, true, true, true, true, true, true, true, true, true, true, true, true, true, true, true, true, true, true, true, true, true, true, true, true, true, true, true, true, true, true, false, false, false, false, false, false] rfl rfl HT_.out ?_
    refine pS (i := 34) (N := some 87) #[true, true, true, true, true, true, true, true, true, true, true, true, true, true, true, true, true, true, true, true, true, true, true, true, true, true, true, true, true, true, true, true, true, true, true, false, false, false, false, false] rfl rfl HT_.out ?_
    refine pS (i := 35) (N := some 88) #[true, true, true, true, true, true, true, true, true, true, true, true, true, true, true, true, true, true, true, true, true, true, true, true, true, true, true, true, true, true, true, true, true, true, true, true, false, false, false, false] rfl rfl HT_.out ?_
    refine pS (i := 36) (N := some 89) #[true, true, true, true, true, true, true, true, true, true, true, true, true, true, true, true, true, true, true, true, true, true, true, true, true, true, true, true, true, true, true, true, true, true, true, true, true, false, false, false] rfl rfl HT_.out ?_
    refine one_ (i := 37) (N := some 90) #[true, true, true, true, true, true, true, true, true, true, true, true, true, true, true, true, true, true, true, true, true, true, true, true, true, true, true, true, true, true, true, true, true, true, true, true, true, true, false, false] rfl rfl (one_of HT_.out (by kernel_rfl)) (by decide) (fun K hK => ?_)
    refine goes_ Try.func11 (by kernel_rfl) rfl #[] (by rfl) rfl rfl (by (try simp only [List.map_toArray, List.map_cons, List.map_nil]); first | done | rfl | (simp only [List.length_drop, List.length_take]; rfl)) ?_
    with_reducible refine (standbylaw55_awake.calls kj3  t264 _ A31.out).mono ?_
    rintro e w75 ⟨rfl, hb⟩
    refine ⟨_, rfl, ?_⟩
    have n0_ := Aside0.mk (Kd.R_below (qR HO236.out) hb)
    have n1_ := Aside0.mk (Kd.R_below (qR HO242.out) hb)
    have n2_ := Aside0.mk (Kd.R_below (qR HO248.out) hb)
    have n3_ := Aside0.mk (Kd.R_below (qR HO254.out) hb)
    have n4_ := Aside0.mk (blk_below (qB BK230.out) hb)
    have n5_ := Aside0.mk (blk_below (qB BK231.out) hb)
    have n6_ := Aside0.mk (blk_below (qB BK239.out) hb)
    have n7_ := Aside0.mk (blk_below (qB BK245.out) hb)
    have n8_ := Aside0.mk (blk_below (qB BK251.out) hb)
    have n9_ := Aside0.mk (blk_below (qB BK257.out) hb)
    have n10_ := Aside0.mk (below_step (qW HB.out) hb)
    clear HO236 HO242 HO248 HO254 BK230 BK231 BK239 BK245 BK251 BK257 HB
    have HO236 := n0_
    have HO242 := n1_
    have HO248 := n2_
    have HO254 := n3_
    have BK230 := n4_
    have BK231 := n5_
    have BK239 := n6_
    have BK245 := n7_
    have BK251 := n8_
    have BK257 := n9_
    have HB := n10_
    clear n0_ n1_ n2_ n3_ n4_ n5_ n6_ n7_ n8_ n9_ n10_
    (try clear hb); (try clear hb2); (try clear hk); (try clear hi)
    refine hK.out _ _ ⟨(blk_cell BK230.out 0).trans rfl, (blk_cell BK230.out 1).trans rfl, (blk_cell BK231.out 0).trans rfl, (blk_cell BK231.out 1).trans rfl, (blk_cell BK239.out 0).trans rfl, (blk_cell BK239.out 1).trans rfl, (blk_cell BK245.out 0).trans rfl, (blk_cell BK245.out 1).trans rfl, (blk_cell BK251.out 0).trans rfl, (blk_cell BK251.out 1).trans rfl, (blk_cell BK257.out 0).trans rfl, (blk_cell BK257.out 1).trans rfl⟩ (fun hHeld => ?_); clear hK K
    refine norm_ (a' := ?_) ?_ ?_; rotate_left
    ·show Act.put _ (some 90) _ = _
     simp only [Act.put, List.setIfInBounds_toArray, List.set_cons_zero, List.set_cons_succ, i64_w, i32_w]
     rfl
    refine pS (i := 38) (N := some 91) #[true, true, true, true, true, true, true, true, true, true, true, true, true, true, true, true, true, true, true, true, true, true, true, true, true, true, true, true, true, true, true, true, true, true, true, true, true, true, true, false] rfl rfl HT_.out ?_
    refine pS (i := 39) (N := some 6) #[true, true, true, true, true, true, true, true, true, true, true, true, true, true, true, true, true, true, true, true, true, true, true, true, true, true, true, true, true, true, true, true, true, true, true, true, true, true, true, true] rfl rfl HT_.out ?_
    refine done_ (done_of HT_.out (by kernel_rfl)) ?_
    try go_wp2
    go_ret
    exact ⟨by first | rfl | (simp [errW_none, errW_some] <;> rfl) | (simp [*, errW_none, errW_some] <;> rfl), by repeat (first | (with_reducible first | exact HB.out | apply below_alloc | apply pw_below_drewN | apply below_drew1 | refine below_set ?_ GE230.out | refine below_set ?_ GE231.out | refine below_set ?_ GE239.out | refine below_set ?_ GE245.out | refine below_set ?_ GE251.out | refine below_set ?_ GE257.out) | exact HB.out)⟩
end Go.Proofs.Ytanlonngekgibaa.Pr

-- Written by pp.py, a program of this session, over the translation of the given program; a machine's text: Lean checks it.
import Derived.Test.YtanlonngekgibaaGShort
import Derived.Test.YtanlonngekgibaaGFnV
namespace Go.Proofs.Ytanlonngekgibaa.Pr
open Go.RowKit Go.Proofs.YtanlonngekgibaaW.PrintWords Go.Proofs.YtanlonngekgibaaW.PrintLast Go.Proofs.YtanlonngekgibaaW.PrintMore
attribute [local go_sem] max2_int min2_int max_two min_two max_three min_three max_four min_four   -- for this text's walks alone
set_option linter.unusedVariables false
set_option linter.unusedSimpArgs false

/-! ### curve_least: function 48 -/
def curve_least.l0 (F2 : Int → Option Int) (F3 : Int → Option Int) : Nat → Int → Int → Int → Int → Option (Int)
 | 0, _, _, _, _ => none
 | k + 1, x0, x1, x9, x10 => if x10 < x0 then ((F2 x10).bind fun t128 => ((F3 (wrap64 (x1 - x10))).bind fun t129 => (curve_least.l0 F2 F3 k x0 x1 (mn x9 (wrap64 (t128 + t129))) (wrap64 (x10 + 1))))) else (some x9)
def curve_least.f (k : Nat) (a0 : Int) (a1 : Int) (F2 : Int → Option Int) (F3 : Int → Option Int) : Option (Int) := (F2 0).bind fun t126 => ((F3 a1).bind fun t127 => (curve_least.l0 F2 F3 k a0 a1 (wrap64 (t126 + t127)) 1))
theorem curve_least.mono_l (F2 : Int → Option Int) (F3 : Int → Option Int) : ∀ k, (∀ y0 y1 y2 y3, LeO (curve_least.l0 F2 F3 k y0 y1 y2 y3) (curve_least.l0 F2 F3 (k + 1) y0 y1 y2 y3))
 | 0 => fun _ _ _ _ r h => by simp [curve_least.l0] at h
 | k + 1 => by
  have ih0 := curve_least.mono_l F2 F3 k
  ·intro y0 y1 y2 y3
   unfold curve_least.l0
   repeat' first
   | (with_reducible exact ih0 _ _ _ _)
   | (with_reducible exact LeO.refl _)
   | (with_reducible exact LeO.none _)
   | (with_reducible refine LeO.ite ?_ ?_)
   | (with_reducible refine LeO.bind ?_ (fun _ => ?_))
   | exact ih0 _ _ _ _
   | exact LeO.none _
   | refine LeO.ite ?_ ?_
   | refine LeO.bind ?_ (fun _ => ?_)
theorem curve_least.mono : ∀ a0 a1 a2 a3 k, LeO (curve_least.f k a0 a1 a2 a3) (curve_least.f (k + 1) a0 a1 a2 a3) := by
 intro a0 a1 a2 a3 k
 have ih0 := curve_least.mono_l a2 a3 k
 unfold curve_least.f
 repeat' first
   | (with_reducible exact ih0 _ _ _ _)
   | (with_reducible exact LeO.refl _)
   | (with_reducible exact LeO.none _)
   | (with_reducible refine LeO.ite ?_ ?_)
   | (with_reducible refine LeO.bind ?_ (fun _ => ?_))
   | exact ih0 _ _ _ _
   | exact LeO.none _
   | refine LeO.ite ?_ ?_
   | refine LeO.bind ?_ (fun _ => ?_)
set_option maxHeartbeats 8000000 in
set_option maxRecDepth 100000 in
theorem curve_least.calls (k : Nat) (a0 : Int) (a1 : Int) (g2 : Nat) (fs2 cs2 : Array Value) (F2 : Int → Option Int) (g3 : Nat) (fs3 cs3 : Array Value) (F3 : Int → Option Int) (r : Int) (w : World) (he2 : FnOk Try.prog g2) (hf2 : ∀ (x0 r : Int) (W : World), Below w.heap.size w W → F2 x0 = some r → Calls Try.prog g2 (fs2 ++ #[.int .i64 x0] ++ cs2) W fun e w' => e = .returned (.int .i64 r) ∧ Below W.heap.size W w') (he3 : FnOk Try.prog g3) (hf3 : ∀ (x0 r : Int) (W : World), Below w.heap.size w W → F3 x0 = some r → Calls Try.prog g3 (fs3 ++ #[.int .i64 x0] ++ cs3) W fun e w' => e = .returned (.int .i64 r) ∧ Below W.heap.size W w') (h : curve_least.f k a0 a1 F2 F3 = some r) :
  Calls Try.prog 48 #[.int .i64 a0, .int .i64 a1, .func (.func g2) fs2 cs2, .func (.func g3) fs3 cs3] w fun e w' => e = .returned (.int .i64 r) ∧ Below w.heap.size w w' := by
 have HE2 := Aside0.mk he2
 have HF2 := Aside0.mk hf2
 clear he2 hf2
 have HE3 := Aside0.mk he3
 have HF3 := Aside0.mk hf3
 clear he3 hf3
 have HB := Aside0.mk (Below.refl w.heap.size w)
 have H : ((F2 0).bind fun t126 => ((F3 a1).bind fun t127 => (curve_least.l0 F2 F3 k a0 a1 (wrap64 (t126 + t127)) 1))) = some r := h
 clear h
 replace H := Option.bind_eq_some_iff.mp H
 obtain ⟨t126, A50, H⟩ := H
 replace H : ((F3 a1).bind fun t127 => (curve_least.l0 F2 F3 k a0 a1 (wrap64 (t126 + t127)) 1)) = some r := H
 have A5 := Aside0.mk A50
 clear A50
 replace H := Option.bind_eq_some_iff.mp H
 obtain ⟨t127, A60, H⟩ := H
 replace H : (curve_least.l0 F2 F3 k a0 a1 (wrap64 (t126 + t127)) 1) = some r := H
 have A6 := Aside0.mk A60
 clear A60
 have H' := Aside0.mk H
 clear H
 go_enter Try.func48, Try.ntmps48
 go_wp2_with (first | ((with_reducible refine gate_dst (N := 12) rfl ?_); refine goesF_ (some 12) rfl rfl HE2.out fs2 cs2 #[.int .i64 0] rfl rfl (by (try simp only [List.map_toArray, List.map_cons, List.map_nil]); first | done | rfl | (simp only [List.length_drop, List.length_take]; rfl)) ?_; (with_reducible refine (HF2.out 0 t126 _ (qW HB.out) A5.out).mono ?_); rintro e w7 ⟨rfl, hb⟩; refine ⟨_, rfl, ?_⟩; have n0_ := Aside0.mk (below_step (qW HB.out) hb); clear HB; have HB := n0_; clear n0_; (try clear hb); (try clear hb2); (try clear hk); (try clear hi)) | ((with_reducible refine gate_dst (N := 15) rfl ?_); refine goesF_ (some 15) rfl rfl HE3.out fs3 cs3 #[.int .i64 a1] rfl rfl (by (try simp only [List.map_toArray, List.map_cons, List.map_nil]); first | done | rfl | (simp only [List.length_drop, List.length_take]; rfl)) ?_; (with_reducible refine (HF3.out a1 t127 _ (qW HB.out) A6.out).mono ?_); rintro e w8 ⟨rfl, hb⟩; refine ⟨_, rfl, ?_⟩; have n0_ := Aside0.mk (below_step (qW HB.out) hb); clear HB; have HB := n0_; clear n0_; (try clear hb); (try clear hb2); (try clear hk); (try clear hi)))
 go_loopg [9, 10] k (fun kq v9 v10 w' => ∃ (x9_1 : Int) (x10_1 : Int), v9 = .int .i64 x9_1 ∧ v10 = .int .i64 x10_1 ∧ Aside0 (curve_least.l0 F2 F3 kq a0 a1 x9_1 x10_1 = some r) ∧ Aside0 (kq ≤ k) ∧ Aside0 (Below w.heap.size w w'))
 case atStart => exact ⟨(wrap64 (t126 + t127)), (1), (by first | rfl | (simp; done) | (simp [*]; done)), (by first | rfl | (simp; done) | (simp [*]; done)), H', ⟨Nat.le_refl _⟩, ⟨by repeat (first | (with_reducible first | exact HB.out | apply below_alloc | apply pw_below_drewN | apply below_drew1) | exact HB.out)⟩⟩
 case round =>
  clear H'
  try clear p2
  try clear c4
  try clear p6
  try clear c8
  obtain ⟨x9_1, x10_1, rfl, rfl, HA, HK1, HB⟩ := hrel
  cases gk with
  | zero => exact absurd HA.out (by simp [curve_least.l0])
  | succ k1 =>
   have H := HA.out
   clear HA
   simp only [curve_least.l0] at H
   by_cases c9 : x10_1 < a0
   case neg =>
    rw [if_neg c9] at H
    have c9b0 : decide (x10_1 < a0) = false := decide_eq_false c9
    clear c9
    obtain rfl := Option.some.inj H
    go_wp2
    go_ret
    exact ⟨by first | rfl | (simp [errW_none, errW_some] <;> rfl) | (simp [*, errW_none, errW_some] <;> rfl), by repeat (first | (with_reducible first | exact HB.out | apply below_alloc | apply pw_below_drewN | apply below_drew1) | exact HB.out)⟩

   rw [if_pos c9] at H
   have c9b0 : decide (x10_1 < a0) = true := decide_eq_true c9
   clear c9
   replace H := Option.bind_eq_some_iff.mp H
   obtain ⟨t128, A100, H⟩ := H
   replace H : ((F3 (wrap64 (a1 - x10_1))).bind fun t129 => (curve_least.l0 F2 F3 k1 a0 a1 (mn x9_1 (wrap64 (t128 + t129))) (wrap64 (x10_1 + 1)))) = some r := H
   have A10 := Aside0.mk A100
   clear A100
   replace H := Option.bind_eq_some_iff.mp H
   obtain ⟨t129, A110, H⟩ := H
   replace H : (curve_least.l0 F2 F3 k1 a0 a1 (mn x9_1 (wrap64 (t128 + t129))) (wrap64 (x10_1 + 1))) = some r := H
   have A11 := Aside0.mk A110
   clear A110
   obtain ⟨ji12, hji12⟩ : ∃ j_ : Int, (mn x9_1 (wrap64 (t128 + t129))) = j_ := ⟨_, rfl⟩
   replace H : (curve_least.l0 F2 F3 k1 a0 a1 ji12 (wrap64 (x10_1 + 1))) = some r := by first | (rw [hji12] at H; exact H) | (simp only [hji12] at H ⊢; exact H)
   (try rw [hji12] at A10)
   (try rw [hji12] at A11)
   have hji12_ : (if (wrap64 (t128 + t129)) < x9_1 then (wrap64 (t128 + t129)) else x9_1) = ji12 := hji12
   have H' := Aside0.mk H
   clear H
   go_wp2_with (first | ((with_reducible refine gate_dst (N := 25) rfl ?_); refine goesF_ (some 25) rfl rfl HE2.out fs2 cs2 #[.int .i64 x10_1] rfl rfl (by (try simp only [List.map_toArray, List.map_cons, List.map_nil]); first | done | rfl | (simp only [List.length_drop, List.length_take]; rfl)) ?_; (with_reducible refine (HF2.out x10_1 t128 _ (qW HB.out) A10.out).mono ?_); rintro e w13 ⟨rfl, hb⟩; refine ⟨_, rfl, ?_⟩; have n0_ := Aside0.mk (below_step (qW HB.out) hb); clear HB; have HB := n0_; clear n0_; (try clear hb); (try clear hb2); (try clear hk); (try clear hi)) | ((with_reducible refine gate_dst (N := 30) rfl ?_); refine goesF_ (some 30) rfl rfl HE3.out fs3 cs3 #[.int .i64 (wrap64 (a1 - x10_1))] rfl rfl (by (try simp only [List.map_toArray, List.map_cons, List.map_nil]); first | done | rfl | (simp only [List.length_drop, List.length_take]; rfl)) ?_; (with_reducible refine (HF3.out (wrap64 (a1 - x10_1)) t129 _ (qW HB.out) A11.out).mono ?_); rintro e w14 ⟨rfl, hb⟩; refine ⟨_, rfl, ?_⟩; have n0_ := Aside0.mk (below_step (qW HB.out) hb); clear HB; have HB := n0_; clear n0_; (try clear hb); (try clear hb2); (try clear hk); (try clear hi)))
   go_roundg k1
   case measure => have := HK1.out; omega
   case rel => exact ⟨(ji12), (wrap64 (x10_1 + 1)), (by first | rfl | (simp; done) | (simp only [← hji12] <;> (first | rfl | simp)) | (simp [*]; done)), (by first | rfl | (simp; done) | (simp [*]; done)), H', ⟨by have := HK1.out; omega⟩, ⟨by repeat (first | (with_reducible first | exact HB.out | apply below_alloc | apply pw_below_drewN | apply below_drew1) | exact HB.out)⟩⟩
end Go.Proofs.Ytanlonngekgibaa.Pr

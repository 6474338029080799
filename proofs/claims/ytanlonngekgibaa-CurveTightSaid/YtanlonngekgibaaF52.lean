-- Written by pp.py, a program of this session, over the translation of the given program; a machine's text: Lean checks it.
import Derived.Test.YtanlonngekgibaaGShort
namespace Go.Proofs.Ytanlonngekgibaa.Pr
open Go.RowKit Go.Proofs.YtanlonngekgibaaW.PrintWords Go.Proofs.YtanlonngekgibaaW.PrintLast Go.Proofs.YtanlonngekgibaaW.PrintMore
attribute [local go_sem] max2_int min2_int max_two min_two max_three min_three max_four min_four   -- for this text's walks alone
set_option linter.unusedVariables false
set_option linter.unusedSimpArgs false

/-! ### standbyref55_crossing: function 52 -/
def standbyref55_crossing.f (a0 : Int) (a1 : Int) (a2 : Int) (a3 : Int) : Option (Int) := if a1 = a3 then (some 0) else (if a1 > a3 then (if a2 ≤ a0 then (some 0) else (if (wrap64 (a1 - a3)) = 0 then (none) else (some (wrap64 (Int.tdiv (wrap64 ((wrap64 ((wrap64 ((wrap64 (a2 - a0)) + a1)) - a3)) - 1)) (wrap64 (a1 - a3))))))) else (if a0 ≤ a2 then (some 0) else (if (wrap64 (a3 - a1)) = 0 then (none) else (some (wrap64 (Int.tdiv (wrap64 ((wrap64 ((wrap64 ((wrap64 (a0 - a2)) + a3)) - a1)) - 1)) (wrap64 (a3 - a1))))))))
set_option maxHeartbeats 8000000 in
set_option maxRecDepth 100000 in
theorem standbyref55_crossing.calls (a0 : Int) (a1 : Int) (a2 : Int) (a3 : Int) (r : Int) (w : World) (h : standbyref55_crossing.f a0 a1 a2 a3 = some r) :
  Calls Try.prog 52 #[.int .i64 a0, .int .i64 a1, .int .i64 a2, .int .i64 a3] w fun e w' => e = .returned (.int .i64 r) ∧ Drawn0 w w' := by
 have H : (if a1 = a3 then (some 0) else (if a1 > a3 then (if a2 ≤ a0 then (some 0) else (if (wrap64 (a1 - a3)) = 0 then (none) else (some (wrap64 (Int.tdiv (wrap64 ((wrap64 ((wrap64 ((wrap64 (a2 - a0)) + a1)) - a3)) - 1)) (wrap64 (a1 - a3))))))) else (if a0 ≤ a2 then (some 0) else (if (wrap64 (a3 - a1)) = 0 then (none) else (some (wrap64 (Int.tdiv (wrap64 ((wrap64 ((wrap64 ((wrap64 (a0 - a2)) + a3)) - a1)) - 1)) (wrap64 (a3 - a1))))))))) = some r := h
 clear h
 by_cases c5 : a1 = a3
 ·rw [if_pos c5] at H
  have c5b0 : (a1 == a3) = true := beq_iff_eq.mpr c5
  have c5b1 : (a1 != a3) = false := bne_eq_false_iff_eq.mpr c5
  clear c5
  obtain rfl := Option.some.inj H
  go_enter Try.func52, Try.ntmps52
  go_wp2
  go_ret
  exact ⟨by first | rfl | (simp; done) | (simp [*]; done), by repeat (first | exact Drawn0.refl _ | apply Drawn0.step)⟩
 ·rw [if_neg c5] at H
  have c5b0 : (a1 == a3) = false := beq_eq_false_iff_ne.mpr c5
  have c5b1 : (a1 != a3) = true := bne_iff_ne.mpr c5
  by_cases c6 : a1 > a3
  ·rw [if_pos c6] at H
   have c6b0 : decide (a3 < a1) = true := decide_eq_true c6
   clear c6
   by_cases c7 : a2 ≤ a0
   ·rw [if_pos c7] at H
    have c7b0 : decide (a2 ≤ a0) = true := decide_eq_true c7
    clear c7
    obtain rfl := Option.some.inj H
    go_enter Try.func52, Try.ntmps52
    go_wp2
    go_ret
    exact ⟨by first | rfl | (simp; done) | (simp [*]; done), by repeat (first | exact Drawn0.refl _ | apply Drawn0.step)⟩
   ·rw [if_neg c7] at H
    have c7b0 : decide (a2 ≤ a0) = false := decide_eq_false c7
    clear c7
    by_cases c8 : (wrap64 (a1 - a3)) = 0
    ·rw [if_pos c8] at H
     exact absurd H (by simp)
    ·rw [if_neg c8] at H
     have c8b0 : ((wrap64 (a1 - a3)) == 0) = false := beq_eq_false_iff_ne.mpr c8
     have c8b1 : ((wrap64 (a1 - a3)) != 0) = true := bne_iff_ne.mpr c8
     obtain rfl := Option.some.inj H
     go_enter Try.func52, Try.ntmps52
     go_wp2
     go_ret
     exact ⟨by first | rfl | (simp; done) | (simp [*]; done), by repeat (first | exact Drawn0.refl _ | apply Drawn0.step)⟩
  ·rw [if_neg c6] at H
   have c6b0 : decide (a3 < a1) = false := decide_eq_false c6
   clear c6
   by_cases c9 : a0 ≤ a2
   ·rw [if_pos c9] at H
    have c9b0 : decide (a0 ≤ a2) = true := decide_eq_true c9
    clear c9
    obtain rfl := Option.some.inj H
    go_enter Try.func52, Try.ntmps52
    go_wp2
    go_ret
    exact ⟨by first | rfl | (simp; done) | (simp [*]; done), by repeat (first | exact Drawn0.refl _ | apply Drawn0.step)⟩
   ·rw [if_neg c9] at H
    have c9b0 : decide (a0 ≤ a2) = false := decide_eq_false c9
    clear c9
    by_cases c10 : (wrap64 (a3 - a1)) = 0
    ·rw [if_pos c10] at H
     exact absurd H (by simp)
    ·rw [if_neg c10] at H
     have c10b0 : ((wrap64 (a3 - a1)) == 0) = false := beq_eq_false_iff_ne.mpr c10
     have c10b1 : ((wrap64 (a3 - a1)) != 0) = true := bne_iff_ne.mpr c10
     obtain rfl := Option.some.inj H
     go_enter Try.func52, Try.ntmps52
     go_wp2
     go_ret
     exact ⟨by first | rfl | (simp; done) | (simp [*]; done), by repeat (first | exact Drawn0.refl _ | apply Drawn0.step)⟩

end Go.Proofs.Ytanlonngekgibaa.Pr

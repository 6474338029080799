/- slices.ContainsFunc at the predicate of curve.Check. -/
import Derived.Test.YtanlonngekgibaaGIdx
import Derived.Test.YtanlonngekgibaaF41
namespace Go.Proofs.Ytanlonngekgibaa.Pr
open Go.RowKit Go.Proofs.YtanlonngekgibaaW.PrintWords Go.Proofs.YtanlonngekgibaaW.PrintLast Go.Proofs.YtanlonngekgibaaW.PrintMore
set_option linter.unusedVariables false
set_option linter.unusedSimpArgs false
theorem time_some (a : Int) : curve_time.f a = some (decide (0 ≤ a) && decide (a ≤ 1073741824)) := by
  unfold curve_time.f
  by_cases h : a ≥ 0
  · rw [if_pos h]; simp [show 0 ≤ a from h]
  · rw [if_neg h]; simp [show ¬ 0 ≤ a from h]
theorem chk_pred : PredI 40 (fun x => !decide (0 ≤ x) || !decide (x ≤ 1073741824)) := by
  intro x w
  go_enter Try.func40, Try.ntmps40
  go_wp2_with fail
  refine (curve_time.calls _ _ _ (time_some x)).mono ?_
  rintro e w' ⟨rfl, hd⟩
  go_wp2
  go_ret
  exact ⟨rfl, hd⟩
def cf_Check1.f (l0 : List Int) : Option Bool := some (l0.any fun x => !decide (0 ≤ x) || !decide (x ≤ 1073741824))
theorem cf_Check1.calls (A0 : Option Addr) (c0 : Nat) (l0 : List Int) (r : Bool) (w : World) (hr0 : Kd.C (Kd.int .i64) w A0 l0.length l0) (hc0 : l0.length ≤ c0) (h : cf_Check1.f l0 = some r) :
    Calls Try.prog 39 #[.slice A0 l0.length c0, .func (.func 40) #[] #[]] w fun e w' => e = .returned (.bool r) ∧ Drawn0 w w' := by
  obtain rfl := Option.some.inj h
  exact ContainsFunc_calls 40 _ chk_pred (enters_of Try.func40 (by kernel_rfl) rfl) A0 c0 l0 _ hr0 hc0
end Go.Proofs.Ytanlonngekgibaa.Pr

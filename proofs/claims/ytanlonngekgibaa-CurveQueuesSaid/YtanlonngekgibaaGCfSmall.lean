/- slices.ContainsFunc at the predicate of small. -/
import Derived.Test.YtanlonngekgibaaGIdx
namespace Go.Proofs.Ytanlonngekgibaa.Pr
open Go.RowKit Go.Proofs.YtanlonngekgibaaW.PrintWords Go.Proofs.YtanlonngekgibaaW.PrintLast Go.Proofs.YtanlonngekgibaaW.PrintMore
set_option linter.unusedVariables false
set_option linter.unusedSimpArgs false
def bigK (x : Int) : Bool := decide (x < 0) || decide (x > 1000)
theorem big_pred : PredI 60 bigK := by
  intro x w
  go_enter Try.func60, Try.ntmps60
  unfold bigK
  by_cases h : x < 0
  · have e := decide_eq_true h
    have HE : Aside0 ((decide (x < 0) || decide (x > 1000)) = true) := ⟨by rw [decide_eq_true h]; rfl⟩
    clear h
    go_wp2
    go_ret
    exact ⟨by rw [HE.out]; rfl, Drawn0.refl _⟩
  · have e := decide_eq_false h
    have HE : Aside0 ((decide (x < 0) || decide (x > 1000)) = decide (x > 1000)) := ⟨by rw [decide_eq_false h]; rfl⟩
    clear h
    go_wp2
    go_ret
    exact ⟨by rw [HE.out]; rfl, Drawn0.refl _⟩
def cf_small1.f (l0 : List Int) : Option Bool := some (l0.any bigK)
theorem cf_small1.calls (A0 : Option Addr) (c0 : Nat) (l0 : List Int) (r : Bool) (w : World) (hr0 : Kd.C (Kd.int .i64) w A0 l0.length l0) (hc0 : l0.length ≤ c0) (h : cf_small1.f l0 = some r) :
    Calls Try.prog 39 #[.slice A0 l0.length c0, .func (.func 60) #[] #[]] w fun e w' => e = .returned (.bool r) ∧ Drawn0 w w' := by
  obtain rfl := Option.some.inj h
  exact ContainsFunc_calls 60 _ big_pred (enters_of Try.func60 (by kernel_rfl) rfl) A0 c0 l0 _ hr0 hc0
end Go.Proofs.Ytanlonngekgibaa.Pr

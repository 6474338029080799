/- The law PlannerChooses. -/
import Derived.Test.YtcflacjidabppaaGChoV
import Derived.Test.YtcflacjidabppaaGAwakeF
import Derived.Test.YtcflacjidabppaaF9
namespace Go.Proofs.Ytcflacjidabppaa.Pr
open Go.RowKit Go.Proofs.YtcflacjidabppaaW.PrintWords Go.Proofs.YtcflacjidabppaaW.PrintLast Go.Proofs.YtcflacjidabppaaW.PrintMore
set_option linter.unusedVariables false
set_option linter.unusedSimpArgs false
theorem few_val (W C : List Int) (p lat app : Int) : ∃ b, standbyref56_Few.f W C p lat app = some b ∧ (b = true → W.length ≤ 40 ∧ C.length ≤ 60) := by
  unfold standbyref56_Few.f
  by_cases h : (W.length : Int) ≤ 40
  · rw [if_pos h]; exact ⟨_, rfl, fun e => ⟨by omega, by have := of_decide_eq_true e; omega⟩⟩
  · rw [if_neg h]; exact ⟨_, rfl, fun e => by cases e⟩
theorem chooses_j0 (W C : List Int) (p lat app most obj : Int) (hW : W.length ≤ 4096) (hC : C.length ≤ 4096) (b : Bool) : standbylaw56_PlannerChooses.j0 60001 most obj b W C p lat app = some true := by
  simp only [standbylaw56_PlannerChooses.j0]
  cases b
  · obtain ⟨r, hr, hR⟩ := rate_f W C p lat app obj 60000 (by decide)
    obtain ⟨s, hs, hS⟩ := rrate_f W C p lat app obj 60000 (by decide) hW
    obtain rfl := hR.uniq hS
    rw [if_neg (by simp), best_f W C p lat app most 60000 (by decide), rbest_f W C p lat app most 60000 (by decide) hW hC, hr, hs, Option.bind_some, Option.bind_some, Option.bind_some, Option.bind_some, if_pos rfl, Same_f _ _ _ _ _ 60000 (bestV_len W C lat app most) (by decide), Option.bind_some, if_pos rfl, if_pos rfl, if_pos rfl, if_pos rfl]
    rfl
  · rw [if_pos rfl]; rfl
theorem chooses_f (W C : List Int) (p lat app most obj : Int) : standbylaw56_PlannerChooses.f 60001 W C p lat app most obj = some true := by
  unfold standbylaw56_PlannerChooses.f
  have ht : ∀ W C : List Int, standbylaw56_PlannerChooses.j0 60001 most obj true W C p lat app = some true := fun W C => by
    simp only [standbylaw56_PlannerChooses.j0]
    rw [if_pos trivial]; rfl
  obtain ⟨b, hb, hb2⟩ := few_val W C p lat app
  rw [hb, Option.bind_some]
  cases b
  · rw [if_neg (by simp)]; exact ht W C
  · obtain ⟨h1, h2⟩ := hb2 rfl
    rw [if_pos rfl]
    split
    · exact chooses_j0 W C p lat app most obj (by omega) (by omega) _
    · exact chooses_j0 W C p lat app most obj (by omega) (by omega) _
theorem PlannerChooses_run (A0 : Option Addr) (c0 : Nat) (l0 : List Int) (A1 : Option Addr) (c1 : Nat) (l1 : List Int) (x2 x3 x4 : Int) (a1 a2 : Int) (w : World) (hr0 : Kd.C (Kd.int .i64) w A0 l0.length l0) (hc0 : l0.length ≤ c0) (hr1 : Kd.C (Kd.int .i64) w A1 l1.length l1) (hc1 : l1.length ≤ c1) :
    Calls Try.prog 9 #[.agg #[.slice A0 l0.length c0, .slice A1 l1.length c1, .int .i64 x2, .int .i64 x3, .int .i64 x4], .int .i64 a1, .int .i64 a2] w fun e w' => e = .returned (.bool true) ∧ Below w.heap.size w w' :=
  standbylaw56_PlannerChooses.calls 60001 A0 c0 l0 A1 c1 l1 x2 x3 x4 a1 a2 true w hr0 hc0 hr1 hc1 (chooses_f l0 l1 x2 x3 x4 a1 a2)
end Go.Proofs.Ytcflacjidabppaa.Pr

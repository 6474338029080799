/- The law CurveCombines. -/
import Derived.Test.YtanlonngekgibaaGComV
import Derived.Test.YtanlonngekgibaaGAwakeB
import Derived.Test.YtanlonngekgibaaF9
namespace Go.Proofs.Ytanlonngekgibaa.Pr
open Go.RowKit Go.Proofs.YtanlonngekgibaaW.PrintWords Go.Proofs.YtanlonngekgibaaW.PrintLast Go.Proofs.YtanlonngekgibaaW.PrintMore
theorem combines_j (b : Bool) (l : List Int) (s : Int) (m : List Int) (t : Int) : standbylaw55_CurveCombines.j0 30000 b l s m t = some true := by
  obtain ⟨r, hr, h1, h2⟩ := min_alike l s m t 29999 (by decide)
  obtain ⟨q, hq, h3, h4⟩ := add_alike l s m t 29999 (by decide)
  show (if b = true then _ else _) = _
  cases b
  · rw [if_neg (by decide), h1, h2, h3, h4, awake_true]
    simp only [Option.bind_some]
    rw [same_f r.1 r.2.1 hr 29999 (by decide), same_f q.1 q.2.1 hq 29999 (by decide)]
    simp
  · rw [if_pos rfl, awake_true]; rfl
theorem combines_f (l : List Int) (s : Int) (m : List Int) (t : Int) : standbylaw55_CurveCombines.f 30000 l s m t = some true := by
  unfold standbylaw55_CurveCombines.f standbyref55_Few.f
  simp only [combines_j, Option.bind_some]
  split <;> rfl
theorem CurveCombines_run (A0 : Option Addr) (c0 : Nat) (l0 : List Int) (s0 : Int) (A1 : Option Addr) (c1 : Nat) (l1 : List Int) (s1 : Int) (w : World) (hr0 : Kd.C (Kd.int .i64) w A0 l0.length l0) (hc0 : l0.length ≤ c0) (hr1 : Kd.C (Kd.int .i64) w A1 l1.length l1) (hc1 : l1.length ≤ c1) :
    Calls Try.prog 9 #[.agg #[.slice A0 l0.length c0, .int .i64 s0], .agg #[.slice A1 l1.length c1, .int .i64 s1]] w fun e w' => e = .returned (.bool true) ∧ Below w.heap.size w w' :=
  standbylaw55_CurveCombines.calls 30000 A0 c0 l0 s0 A1 c1 l1 s1 true w hr0 hc0 hr1 hc1 (combines_f l0 s0 l1 s1)
end Go.Proofs.Ytanlonngekgibaa.Pr

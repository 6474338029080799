/- The law PlannerSimulates answers true. -/
import Derived.Test.YtcflacjidabppaaGSimV
namespace Go.Proofs.Ytcflacjidabppaa.Pr
open Go.RowKit Go.Proofs.YtcflacjidabppaaW.PrintWords Go.Proofs.YtcflacjidabppaaW.PrintLast Go.Proofs.YtcflacjidabppaaW.PrintMore
theorem PlannerSimulates_run (A0 : Option Addr) (c0 : Nat) (l0 : List Int) (A1 : Option Addr) (c1 : Nat) (l1 : List Int) (x2 x3 x4 : Int) (w : World) (hr0 : Kd.C (Kd.int .i64) w A0 l0.length l0) (hc0 : l0.length ≤ c0) (hr1 : Kd.C (Kd.int .i64) w A1 l1.length l1) (hc1 : l1.length ≤ c1) :
    Calls Try.prog 5 #[.agg #[.slice A0 l0.length c0, .slice A1 l1.length c1, .int .i64 x2, .int .i64 x3, .int .i64 x4]] w fun e w' => e = .returned (.bool true) ∧ Below w.heap.size w w' := by
  obtain ⟨k, hk⟩ := PlannerSimulates_true l0 l1 x2 x3 x4
  exact standbylaw56_PlannerSimulates.calls k A0 c0 l0 A1 c1 l1 x2 x3 x4 true w hr0 hc0 hr1 hc1 hk
end Go.Proofs.Ytcflacjidabppaa.Pr

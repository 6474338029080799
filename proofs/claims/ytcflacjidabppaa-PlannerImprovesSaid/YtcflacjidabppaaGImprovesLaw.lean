/- The law PlannerImproves answers true. -/
import Derived.Test.YtcflacjidabppaaGImpV
namespace Go.Proofs.Ytcflacjidabppaa.Pr
open Go.RowKit Go.Proofs.YtcflacjidabppaaW.PrintWords Go.Proofs.YtcflacjidabppaaW.PrintLast Go.Proofs.YtcflacjidabppaaW.PrintMore
theorem PlannerImproves_run (A0 : Option Addr) (c0 : Nat) (l0 : List Int) (A1 : Option Addr) (c1 : Nat) (l1 : List Int) (x2 x3 x4 : Int) (B0 : Option Addr) (d0 : Nat) (m0 : List Int) (B1 : Option Addr) (d1 : Nat) (m1 : List Int) (y2 : Int) (w : World) (hr0 : Kd.C (Kd.int .i64) w A0 l0.length l0) (hc0 : l0.length ≤ c0) (hr1 : Kd.C (Kd.int .i64) w A1 l1.length l1) (hc1 : l1.length ≤ c1)
    (hs0 : Kd.C (Kd.int .u8) w B0 m0.length m0) (hd0 : m0.length ≤ d0) (hs1 : Kd.C (Kd.int .u8) w B1 m1.length m1) (hd1 : m1.length ≤ d1) (hm : ∀ x ∈ m0, 0 ≤ x ∧ x ≤ 255) (hf : ∀ x ∈ m1, 0 ≤ x ∧ x ≤ 255) (hy : 0 ≤ y2 ∧ y2 ≤ 255) :
    Calls Try.prog 7 #[.agg #[.slice A0 l0.length c0, .slice A1 l1.length c1, .int .i64 x2, .int .i64 x3, .int .i64 x4], .agg #[.slice B0 m0.length d0, .slice B1 m1.length d1, .int .u8 y2]] w fun e w' => e = .returned (.bool true) ∧ Below w.heap.size w w' := by
  obtain ⟨k, hk⟩ := PlannerImproves_true l0 l1 x2 x3 x4 m0 m1 y2 hm hf hy
  exact standbylaw56_PlannerImproves.calls k A0 c0 l0 A1 c1 l1 x2 x3 x4 B0 d0 m0 B1 d1 m1 y2 true w hr0 hc0 hr1 hc1 hs0 hd0 hs1 hd1 hk
end Go.Proofs.Ytcflacjidabppaa.Pr

/- The examples of the chapter, at a range of rounds. -/
import Derived.Test.YtanlonngekgibaaF11
namespace Go.Proofs.Ytanlonngekgibaa.Pr
open Go.RowKit Go.Proofs.YtanlonngekgibaaW.PrintWords Go.Proofs.YtanlonngekgibaaW.PrintLast Go.Proofs.YtanlonngekgibaaW.PrintMore
set_option maxRecDepth 100000 in
theorem awake_all : ∀ i : Fin 512, standbylaw55_awake.f (29999 + i.val) = some true := by decide +kernel
theorem awake_rg (k : Nat) (h0 : 29999 ≤ k) (h1 : k < 30511) : standbylaw55_awake.f k = some true := by
  have h := awake_all ⟨k - 29999, by omega⟩
  rw [show 29999 + (k - 29999) = k from by omega] at h
  exact h
end Go.Proofs.Ytanlonngekgibaa.Pr

/-
  No cell of these rows narrows 'for every input' (looked for: loops, veiled, ifaces, maps, wideKeys, modest, calm, conditions, laid).
  DERIVED. THE GIVEN ROWS OF THIS SEAT. 8 by the template 'for every input the law returns true; each argument reads behind the call as it read before'; 0 by the template 'total and deterministic' (their statements: YtanlonngekgibaaTotals.lean).
  GIVEN WITH THE SEED: the statements are not yours to turn. If you find one false, say at which input.
  Laid BY PROGRAM, IN A SANDBOX (cutbox-rows.mjs): the forced cells as the released guide's own fill.sh prints them over the translation a661caad899a440d… (all of the seat's roots in one cut). By AI agents, Wed Nov 11 2026. No macro, syntax, notation, axiom, sorry.
-/
import Derived.Test.YtanlonngekgibaaChecked
import GoSem.Claim
import GoSem.ClaimJoined
import GoSem.ClaimMapViews
import Derived.JoinedTies
import Derived.KernelRfl
namespace Go.Proofs.Ytanlonngekgibaa
/- THE CELL 'sum', in the pinned program and in every row, IS THE sha256 OF THE DUMP (.gsa) THAT YtanlonngekgibaaProg.lean LOADS. Nothing in Lean hashes anything: it is a label: what it is worth is what the hold of that sum in a sandbox is worth. -/
noncomputable def Try.pinned : Pinned := { name := "ytanlonngekgibaa", sum := "a661caad899a440d2098a9702ed779fca69aaa8c17eab6ae7748cd8f76cc05f0", checked := Try.checked }
namespace Rows
def none {H : Type} : Left H := { results := [], args := [] }

/-- 'standbylaw55.CurveMakes': WHATEVER THE INPUT: true; the input reads as it did. -/
def curveMakesSpec : ChangeSpec := { name := "curveMakes", fn := fun _ => fun
  | [d1, d2, d3] => { results := [.lit (.bool true)], args := [d1, d2, d3] }
  | _ => none }
def curveMakesRow : OpenClaim := { program := "ytanlonngekgibaa", sum := "a661caad899a440d2098a9702ed779fca69aaa8c17eab6ae7748cd8f76cc05f0", func := "standby/standbylaw55.CurveMakes", spec := "curveMakes", unfollowed := true, recurses := true, apart := false }
def CurveMakesSaid : Prop := curveMakesRow.holds Try.pinned (OpenSpec.ofChange curveMakesSpec)

/-- ITS FALSE NEIGHBOUR: 'it returns false'. Refute it at one input. -/
def curveMakesWrong : ChangeSpec := { name := "curveMakes", fn := fun _ => fun
  | [d1, d2, d3] => { results := [.lit (.bool false)], args := [d1, d2, d3] }
  | _ => none }
def CurveMakesWrongFalsely : Prop := curveMakesRow.holds Try.pinned (OpenSpec.ofChange curveMakesWrong)

/-- 'standbylaw55.CurveConvolves': WHATEVER THE INPUT: true; the input reads as it did. -/
def curveConvolvesSpec : ChangeSpec := { name := "curveConvolves", fn := fun _ => fun
  | [d1, d2] => { results := [.lit (.bool true)], args := [d1, d2] }
  | _ => none }
def curveConvolvesRow : OpenClaim := { program := "ytanlonngekgibaa", sum := "a661caad899a440d2098a9702ed779fca69aaa8c17eab6ae7748cd8f76cc05f0", func := "standby/standbylaw55.CurveConvolves", spec := "curveConvolves", unfollowed := true, recurses := true, apart := false }
def CurveConvolvesSaid : Prop := curveConvolvesRow.holds Try.pinned (OpenSpec.ofChange curveConvolvesSpec)

/-- ITS FALSE NEIGHBOUR: 'it returns false'. Refute it at one input. -/
def curveConvolvesWrong : ChangeSpec := { name := "curveConvolves", fn := fun _ => fun
  | [d1, d2] => { results := [.lit (.bool false)], args := [d1, d2] }
  | _ => none }
def CurveConvolvesWrongFalsely : Prop := curveConvolvesRow.holds Try.pinned (OpenSpec.ofChange curveConvolvesWrong)

/-- 'standbylaw55.CurveDeviates': WHATEVER THE INPUT: true; the input reads as it did. -/
def curveDeviatesSpec : ChangeSpec := { name := "curveDeviates", fn := fun _ => fun
  | [d1, d2] => { results := [.lit (.bool true)], args := [d1, d2] }
  | _ => none }
def curveDeviatesRow : OpenClaim := { program := "ytanlonngekgibaa", sum := "a661caad899a440d2098a9702ed779fca69aaa8c17eab6ae7748cd8f76cc05f0", func := "standby/standbylaw55.CurveDeviates", spec := "curveDeviates", unfollowed := true, recurses := true, apart := false }
def CurveDeviatesSaid : Prop := curveDeviatesRow.holds Try.pinned (OpenSpec.ofChange curveDeviatesSpec)

/-- ITS FALSE NEIGHBOUR: 'it returns false'. Refute it at one input. -/
def curveDeviatesWrong : ChangeSpec := { name := "curveDeviates", fn := fun _ => fun
  | [d1, d2] => { results := [.lit (.bool false)], args := [d1, d2] }
  | _ => none }
def CurveDeviatesWrongFalsely : Prop := curveDeviatesRow.holds Try.pinned (OpenSpec.ofChange curveDeviatesWrong)

/-- 'standbylaw55.CurveWindows': WHATEVER THE INPUT: true; the input reads as it did. -/
def curveWindowsSpec : ChangeSpec := { name := "curveWindows", fn := fun _ => fun
  | [d1, d2, d3] => { results := [.lit (.bool true)], args := [d1, d2, d3] }
  | _ => none }
def curveWindowsRow : OpenClaim := { program := "ytanlonngekgibaa", sum := "a661caad899a440d2098a9702ed779fca69aaa8c17eab6ae7748cd8f76cc05f0", func := "standby/standbylaw55.CurveWindows", spec := "curveWindows", unfollowed := true, recurses := true, apart := false }
def CurveWindowsSaid : Prop := curveWindowsRow.holds Try.pinned (OpenSpec.ofChange curveWindowsSpec)

/-- ITS FALSE NEIGHBOUR: 'it returns false'. Refute it at one input. -/
def curveWindowsWrong : ChangeSpec := { name := "curveWindows", fn := fun _ => fun
  | [d1, d2, d3] => { results := [.lit (.bool false)], args := [d1, d2, d3] }
  | _ => none }
def CurveWindowsWrongFalsely : Prop := curveWindowsRow.holds Try.pinned (OpenSpec.ofChange curveWindowsWrong)

/-- 'standbylaw55.CurveQueues': WHATEVER THE INPUT: true; the input reads as it did. -/
def curveQueuesSpec : ChangeSpec := { name := "curveQueues", fn := fun _ => fun
  | [d1, d2, d3] => { results := [.lit (.bool true)], args := [d1, d2, d3] }
  | _ => none }
def curveQueuesRow : OpenClaim := { program := "ytanlonngekgibaa", sum := "a661caad899a440d2098a9702ed779fca69aaa8c17eab6ae7748cd8f76cc05f0", func := "standby/standbylaw55.CurveQueues", spec := "curveQueues", unfollowed := true, recurses := true, apart := false }
def CurveQueuesSaid : Prop := curveQueuesRow.holds Try.pinned (OpenSpec.ofChange curveQueuesSpec)

/-- ITS FALSE NEIGHBOUR: 'it returns false'. Refute it at one input. -/
def curveQueuesWrong : ChangeSpec := { name := "curveQueues", fn := fun _ => fun
  | [d1, d2, d3] => { results := [.lit (.bool false)], args := [d1, d2, d3] }
  | _ => none }
def CurveQueuesWrongFalsely : Prop := curveQueuesRow.holds Try.pinned (OpenSpec.ofChange curveQueuesWrong)

/-- 'standbylaw55.CurveTight': WHATEVER THE INPUT: true; the input reads as it did. -/
def curveTightSpec : ChangeSpec := { name := "curveTight", fn := fun _ => fun
  | [d1, d2, d3] => { results := [.lit (.bool true)], args := [d1, d2, d3] }
  | _ => none }
def curveTightRow : OpenClaim := { program := "ytanlonngekgibaa", sum := "a661caad899a440d2098a9702ed779fca69aaa8c17eab6ae7748cd8f76cc05f0", func := "standby/standbylaw55.CurveTight", spec := "curveTight", unfollowed := true, recurses := true, apart := false }
def CurveTightSaid : Prop := curveTightRow.holds Try.pinned (OpenSpec.ofChange curveTightSpec)

/-- ITS FALSE NEIGHBOUR: 'it returns false'. Refute it at one input. -/
def curveTightWrong : ChangeSpec := { name := "curveTight", fn := fun _ => fun
  | [d1, d2, d3] => { results := [.lit (.bool false)], args := [d1, d2, d3] }
  | _ => none }
def CurveTightWrongFalsely : Prop := curveTightRow.holds Try.pinned (OpenSpec.ofChange curveTightWrong)

/-- 'standbylaw55.CurveCombines': WHATEVER THE INPUT: true; the input reads as it did. -/
def curveCombinesSpec : ChangeSpec := { name := "curveCombines", fn := fun _ => fun
  | [d1, d2] => { results := [.lit (.bool true)], args := [d1, d2] }
  | _ => none }
def curveCombinesRow : OpenClaim := { program := "ytanlonngekgibaa", sum := "a661caad899a440d2098a9702ed779fca69aaa8c17eab6ae7748cd8f76cc05f0", func := "standby/standbylaw55.CurveCombines", spec := "curveCombines", unfollowed := true, recurses := true, apart := false }
def CurveCombinesSaid : Prop := curveCombinesRow.holds Try.pinned (OpenSpec.ofChange curveCombinesSpec)

/-- ITS FALSE NEIGHBOUR: 'it returns false'. Refute it at one input. -/
def curveCombinesWrong : ChangeSpec := { name := "curveCombines", fn := fun _ => fun
  | [d1, d2] => { results := [.lit (.bool false)], args := [d1, d2] }
  | _ => none }
def CurveCombinesWrongFalsely : Prop := curveCombinesRow.holds Try.pinned (OpenSpec.ofChange curveCombinesWrong)

/-- 'standbylaw55.CurvePoints': WHATEVER THE INPUT: true; the input reads as it did. -/
def curvePointsSpec : ChangeSpec := { name := "curvePoints", fn := fun _ => fun
  | [d1, d2, d3] => { results := [.lit (.bool true)], args := [d1, d2, d3] }
  | _ => none }
def curvePointsRow : OpenClaim := { program := "ytanlonngekgibaa", sum := "a661caad899a440d2098a9702ed779fca69aaa8c17eab6ae7748cd8f76cc05f0", func := "standby/standbylaw55.CurvePoints", spec := "curvePoints", unfollowed := true, recurses := true, apart := false }
def CurvePointsSaid : Prop := curvePointsRow.holds Try.pinned (OpenSpec.ofChange curvePointsSpec)

/-- ITS FALSE NEIGHBOUR: 'it returns false'. Refute it at one input. -/
def curvePointsWrong : ChangeSpec := { name := "curvePoints", fn := fun _ => fun
  | [d1, d2, d3] => { results := [.lit (.bool false)], args := [d1, d2, d3] }
  | _ => none }
def CurvePointsWrongFalsely : Prop := curvePointsRow.holds Try.pinned (OpenSpec.ofChange curvePointsWrong)

/- THE SECOND FORM. 'bulk': how many values and letters a reading holds, each counted each time it is reached (what is shared counts as often as it is met; a slice's spare places count too). A statement '..UptoSaid' is the law's where the arguments, and the package variables that the reading takes, are together of bulk at most 1048576: NARROWER than '..Said'. Prove '..Said' where nothing that the law and all that it calls make is longer than what came in: it says more and counts as full. Else prove '..UptoSaid'. A law counts once. -/
mutual
def uptoBulk {H : Type} : DataW H → Nat
  | .lit (.string bytes) => bytes.length + 1
  | .lit _ => 1
  | .nil => 1
  | .ptr d => uptoBulk d + 1
  | .slice elems spare => uptoBulkAll elems + uptoBulkAll spare + 1
  | .agg parts => uptoBulkAll parts + 1
  | .iface _ d => uptoBulk d + 1
  | .map entries => uptoBulkEntries entries + 1
  | .held _ => 1
def uptoBulkAll {H : Type} : List (DataW H) → Nat
  | [] => 0
  | d :: r => uptoBulk d + uptoBulkAll r
def uptoBulkEntries {H : Type} : List (Lit × DataW H) → Nat
  | [] => 0
  | x :: r => uptoBulkEntry x + uptoBulkEntries r
def uptoBulkEntry {H : Type} : Lit × DataW H → Nat
  | (.string bytes, d) => bytes.length + uptoBulk d + 1
  | (_, d) => uptoBulk d + 1
 end
def uptoSmall : (H : Type) → List (DataW H) → Bool := fun _ ds => decide (uptoBulkAll ds ≤ 1048576)
def OpenSpec.upto (s : _root_.Go.ChangeSpec) : _root_.Go.OpenSpec := { _root_.Go.OpenSpec.ofChange s with cond := some uptoSmall }

/-- 'standbylaw55.CurveMakes', WHERE WHAT IT READS IS OF BULK AT MOST 1048576: true; the input reads as it did. -/
def curveMakesUptoRow : OpenClaim := { program := "ytanlonngekgibaa", sum := "a661caad899a440d2098a9702ed779fca69aaa8c17eab6ae7748cd8f76cc05f0", func := "standby/standbylaw55.CurveMakes", spec := "curveMakes", unfollowed := true, recurses := true, apart := false, narrowed := true }
def CurveMakesUptoSaid : Prop := curveMakesUptoRow.holds Try.pinned (OpenSpec.upto curveMakesSpec)

/-- 'standbylaw55.CurveConvolves', WHERE WHAT IT READS IS OF BULK AT MOST 1048576: true; the input reads as it did. -/
def curveConvolvesUptoRow : OpenClaim := { program := "ytanlonngekgibaa", sum := "a661caad899a440d2098a9702ed779fca69aaa8c17eab6ae7748cd8f76cc05f0", func := "standby/standbylaw55.CurveConvolves", spec := "curveConvolves", unfollowed := true, recurses := true, apart := false, narrowed := true }
def CurveConvolvesUptoSaid : Prop := curveConvolvesUptoRow.holds Try.pinned (OpenSpec.upto curveConvolvesSpec)

/-- 'standbylaw55.CurveDeviates', WHERE WHAT IT READS IS OF BULK AT MOST 1048576: true; the input reads as it did. -/
def curveDeviatesUptoRow : OpenClaim := { program := "ytanlonngekgibaa", sum := "a661caad899a440d2098a9702ed779fca69aaa8c17eab6ae7748cd8f76cc05f0", func := "standby/standbylaw55.CurveDeviates", spec := "curveDeviates", unfollowed := true, recurses := true, apart := false, narrowed := true }
def CurveDeviatesUptoSaid : Prop := curveDeviatesUptoRow.holds Try.pinned (OpenSpec.upto curveDeviatesSpec)

/-- 'standbylaw55.CurveWindows', WHERE WHAT IT READS IS OF BULK AT MOST 1048576: true; the input reads as it did. -/
def curveWindowsUptoRow : OpenClaim := { program := "ytanlonngekgibaa", sum := "a661caad899a440d2098a9702ed779fca69aaa8c17eab6ae7748cd8f76cc05f0", func := "standby/standbylaw55.CurveWindows", spec := "curveWindows", unfollowed := true, recurses := true, apart := false, narrowed := true }
def CurveWindowsUptoSaid : Prop := curveWindowsUptoRow.holds Try.pinned (OpenSpec.upto curveWindowsSpec)

/-- 'standbylaw55.CurveQueues', WHERE WHAT IT READS IS OF BULK AT MOST 1048576: true; the input reads as it did. -/
def curveQueuesUptoRow : OpenClaim := { program := "ytanlonngekgibaa", sum := "a661caad899a440d2098a9702ed779fca69aaa8c17eab6ae7748cd8f76cc05f0", func := "standby/standbylaw55.CurveQueues", spec := "curveQueues", unfollowed := true, recurses := true, apart := false, narrowed := true }
def CurveQueuesUptoSaid : Prop := curveQueuesUptoRow.holds Try.pinned (OpenSpec.upto curveQueuesSpec)

/-- 'standbylaw55.CurveTight', WHERE WHAT IT READS IS OF BULK AT MOST 1048576: true; the input reads as it did. -/
def curveTightUptoRow : OpenClaim := { program := "ytanlonngekgibaa", sum := "a661caad899a440d2098a9702ed779fca69aaa8c17eab6ae7748cd8f76cc05f0", func := "standby/standbylaw55.CurveTight", spec := "curveTight", unfollowed := true, recurses := true, apart := false, narrowed := true }
def CurveTightUptoSaid : Prop := curveTightUptoRow.holds Try.pinned (OpenSpec.upto curveTightSpec)

/-- 'standbylaw55.CurveCombines', WHERE WHAT IT READS IS OF BULK AT MOST 1048576: true; the input reads as it did. -/
def curveCombinesUptoRow : OpenClaim := { program := "ytanlonngekgibaa", sum := "a661caad899a440d2098a9702ed779fca69aaa8c17eab6ae7748cd8f76cc05f0", func := "standby/standbylaw55.CurveCombines", spec := "curveCombines", unfollowed := true, recurses := true, apart := false, narrowed := true }
def CurveCombinesUptoSaid : Prop := curveCombinesUptoRow.holds Try.pinned (OpenSpec.upto curveCombinesSpec)

/-- 'standbylaw55.CurvePoints', WHERE WHAT IT READS IS OF BULK AT MOST 1048576: true; the input reads as it did. -/
def curvePointsUptoRow : OpenClaim := { program := "ytanlonngekgibaa", sum := "a661caad899a440d2098a9702ed779fca69aaa8c17eab6ae7748cd8f76cc05f0", func := "standby/standbylaw55.CurvePoints", spec := "curvePoints", unfollowed := true, recurses := true, apart := false, narrowed := true }
def CurvePointsUptoSaid : Prop := curvePointsUptoRow.holds Try.pinned (OpenSpec.upto curvePointsSpec)

end Rows
end Go.Proofs.Ytanlonngekgibaa

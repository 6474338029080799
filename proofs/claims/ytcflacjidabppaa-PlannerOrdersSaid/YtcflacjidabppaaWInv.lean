-- The words of the walk that this claim uses: written by print.sh for this claim, cut down by prune.py to what is reached.
import Derived.Test.YtcflacjidabppaaWTab
namespace Go.Proofs.YtcflacjidabppaaW.PrintLast
def up (b : Nat → Bool) (i : Nat) : Nat → Bool := fun j => if j = i then true else b j
section
variable {P : Program} {ops : Array Oper} {Q : Exit → Act → World → Prop} {md : Region.Mode} {T : Bool × List (List Nat × List Nat)} {B : List Nat} {O : List Nat} {b : Nat → Bool} {i j n : Nat}
end
end Go.Proofs.YtcflacjidabppaaW.PrintLast

/- Numbers of the laws over small traces. -/
import Derived.Test.YtcflacjidabppaaGSmallV
namespace Go.Proofs.Ytcflacjidabppaa.Pr
open Go.RowKit Go.Proofs.YtcflacjidabppaaW.PrintWords Go.Proofs.YtcflacjidabppaaW.PrintLast Go.Proofs.YtcflacjidabppaaW.PrintMore
set_option linter.unusedVariables false
set_option linter.unusedSimpArgs false

section
variable {W C : List Int} {p lat app : Int} {A B D E : List Int} {n : Nat} {bd : Int}

theorem cyc_eq (hp : 1 ≤ p ∧ p ≤ 4096) (hW : W.length ≤ 4096) : wrap64 (Int.tdiv (wrap64 (wrap64 ((W.length : Int) + p) - 1)) p) = ((ckN W.length p.toNat : Nat) : Int) := by
  rw [w64 ((W.length : Int) + p) (by omega) (by omega), w64 ((W.length : Int) + p - 1) (by omega) (by omega), Int.tdiv_eq_ediv_of_nonneg (by omega)]
  have hle : ckN W.length p.toNat ≤ W.length + p.toNat := Nat.le_trans (Nat.div_le_self _ _) (by omega)
  have e : ((W.length : Int) + p - 1) / p = ((ckN W.length p.toNat : Nat) : Int) := by
    unfold ckN
    obtain ⟨P, hP⟩ : ∃ P : Nat, p = (P : Int) := ⟨p.toNat, by omega⟩
    subst hP
    rw [Int.toNat_natCast, Int.natCast_ediv]
    congr 1
    omega
  rw [e]
  exact w64 _ (by omega) (by omega)

theorem mulE (p : Int) (hp : 1 ≤ p ∧ p ≤ 4096) (j : Nat) (hj : j ≤ 5000) : wrap64 (wrap64 ((j : Int) + 1) * p) = (((j + 1) * p.toNat : Nat) : Int) := by
  have hmul : (j + 1) * p.toNat ≤ (j + 1) * 4096 := Nat.mul_le_mul_left _ (by omega)
  rw [w64 ((j : Int) + 1) (by omega) (by omega)]
  have e : ((j : Int) + 1) * p = (((j + 1) * p.toNat : Nat) : Int) := by
    rw [Int.natCast_mul, show ((p.toNat : Nat) : Int) = p from by omega]; rfl
  rw [e]
  exact w64 _ (by omega) (by omega)

end
end Go.Proofs.Ytcflacjidabppaa.Pr

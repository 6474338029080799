/- What Check answers. -/
import Derived.Test.YtcflacjidabppaaF15
import Derived.Test.YtcflacjidabppaaGCarrier
namespace Go.Proofs.Ytcflacjidabppaa.Pr
open Go.RowKit Go.Proofs.YtcflacjidabppaaW.PrintWords Go.Proofs.YtcflacjidabppaaW.PrintLast Go.Proofs.YtcflacjidabppaaW.PrintMore
set_option linter.unusedVariables false
set_option linter.unusedSimpArgs false
def okL (l : List Int) : Bool := l.all fun x => decide (0 ≤ x) && decide (x ≤ 4096)
def okP (p q r : Int) : Bool := decide (1 ≤ p) && decide (p ≤ 4096) && (decide (0 ≤ q) && decide (q ≤ 1073741824)) && (decide (0 ≤ r) && decide (r ≤ 1073741824))
/-- What Check answers. -/
def chkV (W C : List Int) (p q r : Int) : Int :=
  if W.length ≤ 4096 ∧ 1 ≤ C.length ∧ C.length ≤ 4096 then (if okL W = true ∧ okL C = true ∧ okP p q r = true then 0 else 2) else 6
theorem drop_rd (l : List Int) (i : Nat) (h : i < l.length) : l.drop i = rd l (i : Int) :: l.drop (i + 1) := by
  rw [List.drop_eq_getElem_cons h]
  simp [rd, List.getD_eq_getElem?_getD, List.getElem?_eq_getElem h]
theorem okL_drop (l : List Int) (i : Nat) (h : i < l.length) : okL (l.drop i) = (decide (0 ≤ rd l (i : Int)) && decide (rd l (i : Int) ≤ 4096) && okL (l.drop (i + 1))) := by
  rw [drop_rd l i h]; rfl
theorem okL_end (l : List Int) (i : Nat) (h : l.length ≤ i) : okL (l.drop i) = true := by
  rw [List.drop_eq_nil_of_le h]; rfl
theorem w64 (x : Int) (h0 : -9223372036854775808 ≤ x) (h1 : x ≤ 9223372036854775807) : wrap64 x = x := by unfold wrap64; omega
theorem sectors_okL (l : List Int) : planner_sectors.f l = some (okL l) := by
  unfold planner_sectors.f okL
  congr 1
  rw [List.all_eq_not_any_not]
  congr 1
  congr 1
  funext x
  simp [Bool.not_and]
theorem planCheck_f (W C : List Int) (p q r : Int) (k : Nat) (hk : 1 ≤ k) : planner_Check.f k W C p q r = some (chkV W C p q r) := by
  unfold planner_Check.f chkV
  obtain ⟨k, rfl⟩ : ∃ k', k = k' + 1 := ⟨k - 1, by omega⟩
  by_cases h1 : (W.length : Int) > 4096
  · rw [if_pos h1, if_neg (by omega)]; simp [planner_Check.j0]
  rw [if_neg h1, between_some, Option.bind_some]
  by_cases h2 : 1 ≤ (C.length : Int) ∧ (C.length : Int) ≤ 4096
  · rw [decide_eq_true h2.1, decide_eq_true h2.2, if_pos (by omega)]
    simp only [planner_Check.j0, sectors_okL, between_some, Option.bind_some, Bool.and_self, Bool.not_true, Bool.false_eq_true, if_false]
    unfold okP
    cases okL W with
    | false => simp
    | true =>
      cases okL C with
      | false => simp
      | true =>
        cases hp : (decide (1 ≤ p) && decide (p ≤ 4096)) with
        | false => simp
        | true =>
          cases hq : (decide (0 ≤ q) && decide (q ≤ 1073741824)) with
          | false => simp
          | true =>
            cases hr : (decide (0 ≤ r) && decide (r ≤ 1073741824)) with
            | false => simp
            | true => simp
  · have : (decide (1 ≤ (C.length : Int)) && decide ((C.length : Int) ≤ 4096)) = false := by simp; omega
    rw [this, if_neg (by omega)]
    simp [planner_Check.j0]
end Go.Proofs.Ytcflacjidabppaa.Pr

/- Both checks of a trace answer alike. -/
import Derived.Test.YtcflacjidabppaaF15
import Derived.Test.YtcflacjidabppaaF16
import Derived.Test.YtcflacjidabppaaGCarrier
namespace Go.Proofs.Ytcflacjidabppaa.Pr
open Go.RowKit Go.Proofs.YtcflacjidabppaaW.PrintWords Go.Proofs.YtcflacjidabppaaW.PrintLast Go.Proofs.YtcflacjidabppaaW.PrintMore
set_option linter.unusedVariables false
set_option linter.unusedSimpArgs false

def okL (l : List Int) : Bool := l.all fun x => decide (0 ≤ x) && decide (x ≤ 4096)
def okP (p q r : Int) : Bool := decide (1 ≤ p) && decide (p ≤ 4096) && (decide (0 ≤ q) && decide (q ≤ 1073741824)) && (decide (0 ≤ r) && decide (r ≤ 1073741824))
/-- What Check answers. -/
def chkV (W C : List Int) (p q r : Int) : Int :=
  if W.length ≤ 4096 ∧ 1 ≤ C.length ∧ C.length ≤ 4096 then (if okL W = true ∧ okL C = true ∧ okP p q r = true then 0 else 2) else 6

theorem drop_rd (l : List Int) (i : Nat) (h : i < l.length) : l.drop i = rd l (i : Int) :: l.drop (i + 1) := by
  rw [List.drop_eq_getElem_cons h]
  simp [rd, List.getD_eq_getElem?_getD, List.getElem?_eq_getElem h]
theorem okL_drop (l : List Int) (i : Nat) (h : i < l.length) : okL (l.drop i) = (decide (0 ≤ rd l (i : Int)) && decide (rd l (i : Int) ≤ 4096) && okL (l.drop (i + 1))) := by
  rw [drop_rd l i h]; rfl
theorem okL_end (l : List Int) (i : Nat) (h : l.length ≤ i) : okL (l.drop i) = true := by
  rw [List.drop_eq_nil_of_le h]; rfl
theorem w64 (x : Int) (h0 : -9223372036854775808 ≤ x) (h1 : x ≤ 9223372036854775807) : wrap64 x = x := by unfold wrap64; omega

theorem refC_l1 (W C : List Int) (p q r : Int) (hC : C.length ≤ 4096) : ∀ m i k : Nat, i + m = C.length → m + 1 ≤ k →
    standbyref56_Check.l1 k (i : Int) W C p q r = some (if okL (C.drop i) = true ∧ okP p q r = true then 0 else 2) := by
  intro m
  induction m with
  | zero =>
    intro i k hi hk
    obtain ⟨k, rfl⟩ : ∃ k', k = k' + 1 := ⟨k - 1, by omega⟩
    simp only [standbyref56_Check.l1]
    rw [if_neg (by omega), okL_end C i (by omega)]
    unfold okP
    by_cases h1 : p < 1
    · rw [if_pos h1, if_neg (by simp; omega)]
    rw [if_neg h1]
    by_cases h2 : p > 4096
    · rw [if_pos h2, if_neg (by simp; omega)]
    rw [if_neg h2]
    by_cases h3 : q < 0
    · rw [if_pos h3, if_neg (by simp; omega)]
    rw [if_neg h3]
    by_cases h4 : q > 1073741824
    · rw [if_pos h4, if_neg (by simp; omega)]
    rw [if_neg h4]
    by_cases h5 : r < 0
    · rw [if_pos h5, if_neg (by simp; omega)]
    rw [if_neg h5]
    by_cases h6 : r > 1073741824
    · rw [if_pos h6, if_neg (by simp; omega)]
    rw [if_neg h6, if_pos (by simp; omega)]
  | succ m ih =>
    intro i k hi hk
    obtain ⟨k, rfl⟩ : ∃ k', k = k' + 1 := ⟨k - 1, by omega⟩
    simp only [standbyref56_Check.l1]
    rw [if_pos (by omega), if_pos (by omega), okL_drop C i (by omega)]
    by_cases h1 : rd C (i : Int) < 0
    · rw [if_pos h1, if_neg (by simp; omega)]
    rw [if_neg h1]
    by_cases h2 : rd C (i : Int) > 4096
    · rw [if_pos h2, if_neg (by simp; omega)]
    rw [if_neg h2, w64 _ (by omega) (by omega), show ((i : Int) + 1) = ((i + 1 : Nat) : Int) from by omega, ih (i + 1) k (by omega) (by omega), decide_eq_true (show 0 ≤ rd C (i : Int) by omega), decide_eq_true (show rd C (i : Int) ≤ 4096 by omega)]
    simp

theorem refC_l0 (W C : List Int) (p q r : Int) (hW : W.length ≤ 4096) (hC : C.length ≤ 4096) : ∀ m i k : Nat, i + m = W.length → m + C.length + 2 ≤ k →
    standbyref56_Check.l0 k (i : Int) W C p q r = some (if okL (W.drop i) = true ∧ okL C = true ∧ okP p q r = true then 0 else 2) := by
  intro m
  induction m with
  | zero =>
    intro i k hi hk
    obtain ⟨k, rfl⟩ : ∃ k', k = k' + 1 := ⟨k - 1, by omega⟩
    simp only [standbyref56_Check.l0]
    have h := refC_l1 W C p q r hC C.length 0 k (by omega) (by omega)
    simp only [Int.natCast_zero, List.drop_zero] at h
    rw [if_neg (by omega), okL_end W i (by omega), h]
    simp
  | succ m ih =>
    intro i k hi hk
    obtain ⟨k, rfl⟩ : ∃ k', k = k' + 1 := ⟨k - 1, by omega⟩
    simp only [standbyref56_Check.l0]
    rw [if_pos (by omega), if_pos (by omega), okL_drop W i (by omega)]
    by_cases h1 : rd W (i : Int) < 0
    · rw [if_pos h1, if_neg (by simp; omega)]
    rw [if_neg h1]
    by_cases h2 : rd W (i : Int) > 4096
    · rw [if_pos h2, if_neg (by simp; omega)]
    rw [if_neg h2, w64 _ (by omega) (by omega), show ((i : Int) + 1) = ((i + 1 : Nat) : Int) from by omega, ih (i + 1) k (by omega) (by omega), decide_eq_true (show 0 ≤ rd W (i : Int) by omega), decide_eq_true (show rd W (i : Int) ≤ 4096 by omega)]
    simp

theorem refCheck_f (W C : List Int) (p q r : Int) (k : Nat) (hk : W.length + C.length + 3 ≤ k) : standbyref56_Check.f k W C p q r = some (chkV W C p q r) := by
  unfold standbyref56_Check.f chkV
  obtain ⟨k, rfl⟩ : ∃ k', k = k' + 1 := ⟨k - 1, by omega⟩
  by_cases h1 : (W.length : Int) > 4096
  · rw [if_pos h1, if_neg (by omega)]; simp [standbyref56_Check.j0]
  rw [if_neg h1]
  by_cases h2 : (C.length : Int) < 1
  · rw [if_pos h2, if_neg (by omega)]; simp [standbyref56_Check.j0]
  rw [if_neg h2]
  by_cases h3 : (C.length : Int) > 4096
  · rw [decide_eq_true h3, if_neg (by omega)]; simp [standbyref56_Check.j0]
  rw [decide_eq_false h3, if_pos (by omega)]
  simp only [standbyref56_Check.j0, Bool.false_eq_true, if_false]
  have h := refC_l0 W C p q r (by omega) (by omega) W.length 0 k (by omega) (by omega)
  simpa only [Int.natCast_zero, List.drop_zero] using h

theorem sectors_okL (l : List Int) : planner_sectors.f l = some (okL l) := by
  unfold planner_sectors.f okL
  congr 1
  rw [List.all_eq_not_any_not]
  congr 1
  congr 1
  funext x
  simp [Bool.not_and]

theorem planCheck_f (W C : List Int) (p q r : Int) (k : Nat) (hk : 1 ≤ k) : planner_Check.f k W C p q r = some (chkV W C p q r) := by
  unfold planner_Check.f chkV
  obtain ⟨k, rfl⟩ : ∃ k', k = k' + 1 := ⟨k - 1, by omega⟩
  by_cases h1 : (W.length : Int) > 4096
  · rw [if_pos h1, if_neg (by omega)]; simp [planner_Check.j0]
  rw [if_neg h1, between_some, Option.bind_some]
  by_cases h2 : 1 ≤ (C.length : Int) ∧ (C.length : Int) ≤ 4096
  · rw [decide_eq_true h2.1, decide_eq_true h2.2, if_pos (by omega)]
    simp only [planner_Check.j0, sectors_okL, between_some, Option.bind_some, Bool.and_self, Bool.not_true, Bool.false_eq_true, if_false]
    unfold okP
    cases okL W with
    | false => simp
    | true =>
      cases okL C with
      | false => simp
      | true =>
        cases hp : (decide (1 ≤ p) && decide (p ≤ 4096)) with
        | false => simp
        | true =>
          cases hq : (decide (0 ≤ q) && decide (q ≤ 1073741824)) with
          | false => simp
          | true =>
            cases hr : (decide (0 ≤ r) && decide (r ≤ 1073741824)) with
            | false => simp
            | true => simp
  · have : (decide (1 ≤ (C.length : Int)) && decide ((C.length : Int) ≤ 4096)) = false := by simp; omega
    rw [this, if_neg (by omega)]
    simp [planner_Check.j0]
end Go.Proofs.Ytcflacjidabppaa.Pr

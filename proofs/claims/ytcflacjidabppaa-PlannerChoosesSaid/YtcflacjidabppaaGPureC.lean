/- Both checks of a trace answer alike. -/
import Derived.Test.YtcflacjidabppaaGPureK
import Derived.Test.YtcflacjidabppaaF16
namespace Go.Proofs.Ytcflacjidabppaa.Pr
open Go.RowKit Go.Proofs.YtcflacjidabppaaW.PrintWords Go.Proofs.YtcflacjidabppaaW.PrintLast Go.Proofs.YtcflacjidabppaaW.PrintMore
set_option linter.unusedVariables false
set_option linter.unusedSimpArgs false
theorem refC_l1 (W C : List Int) (p q r : Int) (hC : C.length ≤ 4096) : ∀ m i k : Nat, i + m = C.length → m + 1 ≤ k →
    standbyref56_Check.l1 k (i : Int) W C p q r = some (if okL (C.drop i) = true ∧ okP p q r = true then 0 else 2) := by
  intro m
  induction m with
  | zero =>
    intro i k hi hk
    obtain ⟨k, rfl⟩ : ∃ k', k = k' + 1 := ⟨k - 1, by omega⟩
    simp only [standbyref56_Check.l1]
    rw [if_neg (by omega), okL_end C i (by omega)]
    unfold okP
    by_cases h1 : p < 1
    · rw [if_pos h1, if_neg (by simp; omega)]
    rw [if_neg h1]
    by_cases h2 : p > 4096
    · rw [if_pos h2, if_neg (by simp; omega)]
    rw [if_neg h2]
    by_cases h3 : q < 0
    · rw [if_pos h3, if_neg (by simp; omega)]
    rw [if_neg h3]
    by_cases h4 : q > 1073741824
    · rw [if_pos h4, if_neg (by simp; omega)]
    rw [if_neg h4]
    by_cases h5 : r < 0
    · rw [if_pos h5, if_neg (by simp; omega)]
    rw [if_neg h5]
    by_cases h6 : r > 1073741824
    · rw [if_pos h6, if_neg (by simp; omega)]
    rw [if_neg h6, if_pos (by simp; omega)]
  | succ m ih =>
    intro i k hi hk
    obtain ⟨k, rfl⟩ : ∃ k', k = k' + 1 := ⟨k - 1, by omega⟩
    simp only [standbyref56_Check.l1]
    rw [if_pos (by omega), if_pos (by omega), okL_drop C i (by omega)]
    by_cases h1 : rd C (i : Int) < 0
    · rw [if_pos h1, if_neg (by simp; omega)]
    rw [if_neg h1]
    by_cases h2 : rd C (i : Int) > 4096
    · rw [if_pos h2, if_neg (by simp; omega)]
    rw [if_neg h2, w64 _ (by omega) (by omega), show ((i : Int) + 1) = ((i + 1 : Nat) : Int) from by omega, ih (i + 1) k (by omega) (by omega), decide_eq_true (show 0 ≤ rd C (i : Int) by omega), decide_eq_true (show rd C (i : Int) ≤ 4096 by omega)]
    simp
theorem refC_l0 (W C : List Int) (p q r : Int) (hW : W.length ≤ 4096) (hC : C.length ≤ 4096) : ∀ m i k : Nat, i + m = W.length → m + C.length + 2 ≤ k →
    standbyref56_Check.l0 k (i : Int) W C p q r = some (if okL (W.drop i) = true ∧ okL C = true ∧ okP p q r = true then 0 else 2) := by
  intro m
  induction m with
  | zero =>
    intro i k hi hk
    obtain ⟨k, rfl⟩ : ∃ k', k = k' + 1 := ⟨k - 1, by omega⟩
    simp only [standbyref56_Check.l0]
    have h := refC_l1 W C p q r hC C.length 0 k (by omega) (by omega)
    simp only [Int.natCast_zero, List.drop_zero] at h
    rw [if_neg (by omega), okL_end W i (by omega), h]
    simp
  | succ m ih =>
    intro i k hi hk
    obtain ⟨k, rfl⟩ : ∃ k', k = k' + 1 := ⟨k - 1, by omega⟩
    simp only [standbyref56_Check.l0]
    rw [if_pos (by omega), if_pos (by omega), okL_drop W i (by omega)]
    by_cases h1 : rd W (i : Int) < 0
    · rw [if_pos h1, if_neg (by simp; omega)]
    rw [if_neg h1]
    by_cases h2 : rd W (i : Int) > 4096
    · rw [if_pos h2, if_neg (by simp; omega)]
    rw [if_neg h2, w64 _ (by omega) (by omega), show ((i : Int) + 1) = ((i + 1 : Nat) : Int) from by omega, ih (i + 1) k (by omega) (by omega), decide_eq_true (show 0 ≤ rd W (i : Int) by omega), decide_eq_true (show rd W (i : Int) ≤ 4096 by omega)]
    simp
theorem refCheck_f (W C : List Int) (p q r : Int) (k : Nat) (hk : W.length + C.length + 3 ≤ k) : standbyref56_Check.f k W C p q r = some (chkV W C p q r) := by
  unfold standbyref56_Check.f chkV
  obtain ⟨k, rfl⟩ : ∃ k', k = k' + 1 := ⟨k - 1, by omega⟩
  by_cases h1 : (W.length : Int) > 4096
  · rw [if_pos h1, if_neg (by omega)]; simp [standbyref56_Check.j0]
  rw [if_neg h1]
  by_cases h2 : (C.length : Int) < 1
  · rw [if_pos h2, if_neg (by omega)]; simp [standbyref56_Check.j0]
  rw [if_neg h2]
  by_cases h3 : (C.length : Int) > 4096
  · rw [decide_eq_true h3, if_neg (by omega)]; simp [standbyref56_Check.j0]
  rw [decide_eq_false h3, if_pos (by omega)]
  simp only [standbyref56_Check.j0, Bool.false_eq_true, if_false]
  have h := refC_l0 W C p q r (by omega) (by omega) W.length 0 k (by omega) (by omega)
  simpa only [Int.natCast_zero, List.drop_zero] using h
end Go.Proofs.Ytcflacjidabppaa.Pr

/- Both plans of a trace are one. -/
import Derived.Test.YtcflacjidabppaaGPureF
import Derived.Test.YtcflacjidabppaaGPureC
import Derived.Test.YtcflacjidabppaaF14
namespace Go.Proofs.Ytcflacjidabppaa.Pr
open Go.RowKit Go.Proofs.YtcflacjidabppaaW.PrintWords Go.Proofs.YtcflacjidabppaaW.PrintLast Go.Proofs.YtcflacjidabppaaW.PrintMore
set_option linter.unusedVariables false
set_option linter.unusedSimpArgs false
theorem ref_l0 (W C : List Int) (P : Nat) (lat app : Int) (hT : TrOk W C P lat app) (n : Nat) (hn : n ≤ 4096) (hni : ∀ i : Nat, i < n → i * P ≤ W.length) : ∀ m i k : Nat, ∀ (e : Int) (A B D E : List Int), i + m = n → 3 * m + W.length + C.length + 3 ≤ k → PInv P lat app i e A B D E →
    standbyref56_Plan.l0 k (n : Int) e ((i * P : Nat) : Int) (i : Int) W C (P : Int) lat app A B D E (bndN P E i) = some (outP P (pgo W C P lat app m i e A B D E)) := by
  intro m
  induction m with
  | zero =>
    intro i k e A B D E hi hk hI
    obtain ⟨k, rfl⟩ : ∃ k', k = k' + 1 := ⟨k - 1, by omega⟩
    obtain rfl : i = n := by omega
    have h1 := hI.e0
    have hl := hT.hl
    have ha := hT.ha
    simp only [standbyref56_Plan.l0, pgo, outP]
    rw [if_neg (by omega), hI.lE]
    by_cases h0 : (i : Int) > 0
    · obtain ⟨j, rfl⟩ : ∃ j, i = j + 1 := ⟨i - 1, by omega⟩
      have hmul : (j + 1) * P ≤ (j + 1) * 4096 := Nat.mul_le_mul_left _ hT.hP.2
      have hlow := bnd_low P hT.hP.1 E j
      rw [hI.lst j rfl] at hlow
      rw [if_pos h0, w64 (e + lat) (by omega) (by omega), w64 (e + lat + app) (by omega) (by omega), w64 _ (by omega) (by omega)]
      have e2 : mx (bndN P E (j + 1)) (e + lat + app - (((j + 1) * P : Nat) : Int)) = bndN P E (j + 1) := by unfold mx; split <;> omega
      rw [e2]
    · rw [if_neg h0]
  | succ m ih =>
    intro i k e A B D E hi hk hI
    obtain ⟨k, rfl⟩ : ∃ k', k = k' + 3 := ⟨k - 3, by omega⟩
    have hP := hT.hP
    have hmul : (i + 1) * P ≤ (i + 1) * 4096 := Nat.mul_le_mul_left _ hP.2
    have hmul2 : (i + 1) * P = i * P + P := Nat.succ_mul i P
    have hE : wrap64 (wrap64 ((i : Int) + 1) * (P : Int)) = (((i + 1) * P : Nat) : Int) := by
      rw [w64 ((i : Int) + 1) (by omega) (by omega)]
      have e : ((i : Int) + 1) * (P : Int) = (((i + 1) * P : Nat) : Int) := by rw [Int.natCast_mul]; rfl
      rw [e]
      exact w64 _ (by omega) (by omega)
    have hb := ckSum_bd W P i hT.hW hT.hx
    have h1 := hI.e0
    have hst : 0 ≤ mx (((i + 1) * P : Nat) : Int) e ∧ mx (((i + 1) * P : Nat) : Int) e ≤ 17020000 * (i : Int) + 4096 := by unfold mx; split <;> omega
    obtain ⟨v, hv1, hv2⟩ := finish_f W C (P : Int) lat app (mx (((i + 1) * P : Nat) : Int) e) (ckSum W P i) (k + 2) hT.hC hT.hc hst.1 (by omega) hb.1 (by omega) (by omega)
    simp only [standbyref56_Plan.l0, standbyref56_Plan.j1, standbyref56_Plan.j2, hE, pgo]
    rw [if_pos (by omega), refSize_f W C P lat app i (k + 2) hP hT.hW hT.hx (hni i (by omega)) (by omega), Option.bind_some, hv1, Option.bind_some]
    rcases endF_cases hv2 with ⟨rfl, hx⟩ | ⟨x, rfl, hx⟩
    · rw [hx]; simp [outP]
    · rw [hx]
      have hI2 := hI.step hT (by omega) hx
      have hx0 := hI2.e0
      have hl := hT.hl
      have ha := hT.ha
      have hn2 := ih (i + 1) k x _ _ _ _ (by omega) (by omega) hI2
      have hb1 := bndN_app P E (x + lat + app) i (by rw [hI.lE]; omega)
      simp only [Option.bind_some, if_true, List.length_singleton]
      rw [if_pos (by rw [hI.lA]; omega), if_pos (by rw [hI.lB]; omega), if_pos (by rw [hI.lD]; omega), if_pos (by rw [hI.lE]; omega), w64 (x + lat) (by omega) (by omega), w64 (x + lat + app) (by omega) (by omega), w64 ((i : Int) + 1) (by omega) (by omega),
        show ((i : Int) + 1) = ((i + 1 : Nat) : Int) from by omega, w64 (x + lat + app - 1) (by omega) (by omega), w64 (x + lat + app - 1 - ((i * P : Nat) : Int)) (by omega) (by omega), w64 ((i : Int) - 1) (by omega) (by omega)]
      have e : bndN P (E ++ [x + lat + app]) (i + 1) = if i = 0 ∨ x + lat + app > rd (E ++ [x + lat + app]) (((i - 1 : Nat)) : Int) then mx (bndN P E i) (x + lat + app - 1 - ((i * P : Nat) : Int)) else bndN P E i := by
        conv => lhs; unfold bndN
        rw [rd_app_eq E _ _ hI.lE.symm, hb1]
      by_cases h0 : (i : Int) = 0
      · rw [if_pos h0]
        rw [e, if_pos (.inl (by omega))] at hn2
        exact hn2
      · rw [if_neg h0, if_pos (by omega), if_pos (by rw [List.length_append, hI.lE]; omega), show ((i : Int) - 1) = ((i - 1 : Nat) : Int) from by omega]
        by_cases hg : x + lat + app > rd (E ++ [x + lat + app]) (((i - 1 : Nat)) : Int)
        · rw [if_pos hg]
          rw [e, if_pos (.inr hg)] at hn2
          exact hn2
        · rw [if_neg hg]
          rw [e, if_neg (fun h => h.elim (fun h => h0 (by omega)) hg)] at hn2
          exact hn2
end Go.Proofs.Ytcflacjidabppaa.Pr

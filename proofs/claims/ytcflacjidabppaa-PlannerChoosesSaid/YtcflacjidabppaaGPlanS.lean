/- What a plan has, told cycle by cycle. -/
import Derived.Test.YtcflacjidabppaaGPlanW
namespace Go.Proofs.Ytcflacjidabppaa.Pr
open Go.RowKit Go.Proofs.YtcflacjidabppaaW.PrintWords Go.Proofs.YtcflacjidabppaaW.PrintLast Go.Proofs.YtcflacjidabppaaW.PrintMore
set_option linter.unusedVariables false
set_option linter.unusedSimpArgs false

/-- The end of the transfer before cycle j. -/
def prevD (D : List Int) (j : Nat) : Int := if j = 0 then 0 else rd D ((j - 1 : Nat) : Int)

/-- The first i cycles of a plan. -/
structure PSpec (W C : List Int) (P : Nat) (lat app : Int) (i : Nat) (A B D E : List Int) : Prop where
  lA : A.length = i
  lB : B.length = i
  lD : D.length = i
  lE : E.length = i
  rA : ∀ j : Nat, j < i → rd A (j : Int) = (((j + 1) * P : Nat) : Int)
  rB : ∀ j : Nat, j < i → rd B (j : Int) = mx (((j + 1) * P : Nat) : Int) (prevD D j)
  rD : ∀ j : Nat, j < i → endT (sumsOf C) (rd C ((C.length : Int) - 1)) (mx (((j + 1) * P : Nat) : Int) (prevD D j)) (ckSum W P j) = some (rd D (j : Int))
  rE : ∀ j : Nat, j < i → rd E (j : Int) = rd D (j : Int) + lat + app

theorem PSpec.start (W C : List Int) (P : Nat) (lat app : Int) : PSpec W C P lat app 0 [] [] [] [] :=
  ⟨rfl, rfl, rfl, rfl, fun j h => absurd h (by omega), fun j h => absurd h (by omega), fun j h => absurd h (by omega), fun j h => absurd h (by omega)⟩

theorem prevD_app (D : List Int) (x : Int) (j : Nat) (h : j ≤ D.length) : prevD (D ++ [x]) j = prevD D j := by
  unfold prevD
  by_cases e : j = 0
  · rw [if_pos e, if_pos e]
  · rw [if_neg e, if_neg e, rd_app_lt D x (j - 1) (by omega)]

theorem PSpec.step {W C : List Int} {P : Nat} {lat app : Int} {i : Nat} {A B D E : List Int} (h : PSpec W C P lat app i A B D E) {x : Int}
    (hx : endT (sumsOf C) (rd C ((C.length : Int) - 1)) (mx (((i + 1) * P : Nat) : Int) (prevD D i)) (ckSum W P i) = some x) :
    PSpec W C P lat app (i + 1) (A ++ [(((i + 1) * P : Nat) : Int)]) (B ++ [mx (((i + 1) * P : Nat) : Int) (prevD D i)]) (D ++ [x]) (E ++ [x + lat + app]) := by
  have lD := h.lD
  refine ⟨by simp [h.lA], by simp [h.lB], by simp [h.lD], by simp [h.lE], fun j hj => ?_, fun j hj => ?_, fun j hj => ?_, fun j hj => ?_⟩
  · by_cases hji : j < i
    · rw [rd_app_lt A _ j (by rw [h.lA]; exact hji)]; exact h.rA j hji
    · obtain rfl : j = i := by omega
      exact rd_app_eq A _ _ h.lA.symm
  · rw [prevD_app D x j (by omega)]
    by_cases hji : j < i
    · rw [rd_app_lt B _ j (by rw [h.lB]; exact hji)]; exact h.rB j hji
    · obtain rfl : j = i := by omega
      exact rd_app_eq B _ _ h.lB.symm
  · rw [prevD_app D x j (by omega)]
    by_cases hji : j < i
    · rw [rd_app_lt D _ j (by omega)]; exact h.rD j hji
    · obtain rfl : j = i := by omega
      rw [rd_app_eq D _ _ h.lD.symm]; exact hx
  · by_cases hji : j < i
    · rw [rd_app_lt E _ j (by rw [h.lE]; exact hji), rd_app_lt D _ j (by omega)]; exact h.rE j hji
    · obtain rfl : j = i := by omega
      rw [rd_app_eq E _ _ h.lE.symm, rd_app_eq D _ _ h.lD.symm]

theorem pgo_spec (W C : List Int) (P : Nat) (lat app : Int) : ∀ m i e A B D E A' B' D' E', e = prevD D i → PSpec W C P lat app i A B D E → pgo W C P lat app m i e A B D E = some (A', B', D', E') → PSpec W C P lat app (i + m) A' B' D' E' := by
  intro m
  induction m with
  | zero =>
    intro i e A B D E A' B' D' E' he hS h
    simp only [pgo] at h
    have e := Option.some.inj h
    simp only [Prod.mk.injEq] at e
    obtain ⟨rfl, rfl, rfl, rfl⟩ := e
    exact hS
  | succ m ih =>
    intro i e A B D E A' B' D' E' he hS h
    simp only [pgo] at h
    split at h
    · cases h
    · rename_i x hx
      rw [he] at hx h
      have := ih (i + 1) x _ _ _ _ _ _ _ _ (by unfold prevD; rw [if_neg (by omega), show i + 1 - 1 = i from by omega, rd_app_eq D x i hS.lD.symm]) (hS.step hx) h
      rw [show i + (m + 1) = i + 1 + m from by omega]
      exact this

/-- When a plan is not found, some cycle's transfer never ends. -/
theorem pgo_none (W C : List Int) (P : Nat) (lat app : Int) : ∀ m i e A B D E, pgo W C P lat app m i e A B D E = none → rd C ((C.length : Int) - 1) = 0 := by
  intro m
  induction m with
  | zero => intro i e A B D E h; simp [pgo] at h
  | succ m ih =>
    intro i e A B D E h
    simp only [pgo] at h
    split at h
    · rename_i hx
      unfold endT at hx
      split at hx
      · cases hx
      · split at hx
        · cases hx
        · split at hx
          · assumption
          · cases hx
    · exact ih _ _ _ _ _ _ h

/-- The bound is the greatest of E i - 1 - i P, and 0. -/
theorem bndN_le (P : Nat) (E : List Int) : ∀ n i : Nat, i < n → rd E (i : Int) - 1 - ((i * P : Nat) : Int) ≤ bndN P E n := by
  intro n
  induction n with
  | zero => intro i h; omega
  | succ n ih =>
    intro i hi
    have hmono : bndN P E n ≤ bndN P E (n + 1) := by
      conv => rhs; unfold bndN
      split
      · unfold mx; split <;> omega
      · exact Int.le_refl _
    by_cases h : i < n
    · exact Int.le_trans (ih i h) hmono
    · obtain rfl : i = n := by omega
      by_cases hc : i = 0 ∨ rd E (i : Int) > rd E (((i - 1 : Nat)) : Int)
      · conv => rhs; unfold bndN
        rw [if_pos hc]
        unfold mx; split <;> omega
      · have h1 : ¬ i = 0 := fun e => hc (.inl e)
        have h2 : ¬ rd E (i : Int) > rd E (((i - 1 : Nat)) : Int) := fun e => hc (.inr e)
        have h3 := ih (i - 1) (by omega)
        have h4 : (i - 1) * P ≤ i * P := Nat.mul_le_mul_right _ (by omega)
        omega
theorem bndN_at (P : Nat) (E : List Int) (n : Nat) : bndN P E n = 0 ∨ ∃ i : Nat, i < n ∧ (i = 0 ∨ rd E (i : Int) > rd E (((i - 1 : Nat)) : Int)) ∧ bndN P E n = rd E (i : Int) - 1 - ((i * P : Nat) : Int) := by
  induction n with
  | zero => exact .inl rfl
  | succ n ih =>
    unfold bndN
    split
    · rename_i hc
      unfold mx
      split
      · exact .inr ⟨n, by omega, hc, rfl⟩
      · rcases ih with h | ⟨i, h1, h2, h3⟩
        · exact .inl h
        · exact .inr ⟨i, by omega, h2, h3⟩
    · rcases ih with h | ⟨i, h1, h2, h3⟩
      · exact .inl h
      · exact .inr ⟨i, by omega, h2, h3⟩
theorem bndN_pos (P : Nat) (E : List Int) (n : Nat) : 0 ≤ bndN P E n := by
  induction n with
  | zero => exact Int.le_refl _
  | succ n ih =>
    unfold bndN
    split
    · unfold mx; split <;> omega
    · exact ih

/-- The transfers of a plan, by what is carried. -/
theorem PSpec.ends {W C : List Int} {P : Nat} {lat app : Int} {n : Nat} {A B D E : List Int} (hT : TrOk W C P lat app) (h : PSpec W C P lat app n A B D E) :
    ∀ j : Nat, j < n → 0 ≤ rd D (j : Int) ∧ EndsAt (sumsOf C) (rd C ((C.length : Int) - 1)) (rd B (j : Int)) (ckSum W P j) (rd D (j : Int)) := by
  have hS := sums_small hT.hC.1 hT.hC.2 hT.hc
  have hU := sums_up hT.hc
  intro j
  induction j with
  | zero =>
    intro hj
    have hr := h.rD 0 hj
    rw [h.rB 0 hj]
    have hst : 0 ≤ mx (((0 + 1) * P : Nat) : Int) (prevD D 0) := by unfold mx; split <;> omega
    have := endT_some _ _ _ _ _ hS hU hst (ckSum_bd W P 0 hT.hW hT.hx).1 hr
    have h1 := this.1
    exact ⟨by omega, this⟩
  | succ j ih =>
    intro hj
    have hr := h.rD (j + 1) hj
    rw [h.rB (j + 1) hj]
    have hst : 0 ≤ mx (((j + 1 + 1) * P : Nat) : Int) (prevD D (j + 1)) := by unfold mx; split <;> omega
    have := endT_some _ _ _ _ _ hS hU hst (ckSum_bd W P (j + 1) hT.hW hT.hx).1 hr
    have h1 := this.1
    exact ⟨by omega, this⟩
theorem PSpec.prev_le {W C : List Int} {P : Nat} {lat app : Int} {n : Nat} {A B D E : List Int} (h : PSpec W C P lat app n A B D E) {j : Nat} (hj : j < n) : (((j + 1) * P : Nat) : Int) ≤ rd B (j : Int) ∧ prevD D j ≤ rd B (j : Int) := by
  rw [h.rB j hj]
  unfold mx; split <;> omega

/-- What Plan answers: three ways. -/
theorem planV_cases (W C : List Int) (p lat app : Int) :
    (chkV W C p lat app ≠ 0 ∧ planV W C p lat app = ([], [], [], [], 0, chkV W C p lat app)) ∨
    (chkV W C p lat app = 0 ∧ rd C ((C.length : Int) - 1) = 0 ∧ planV W C p lat app = ([], [], [], [], 0, 21)) ∨
    (chkV W C p lat app = 0 ∧ ∃ A B D E, planV W C p lat app = (A, B, D, E, bndN p.toNat E E.length, 0) ∧ PSpec W C p.toNat lat app (ckN W.length p.toNat) A B D E) := by
  unfold planV
  by_cases h : chkV W C p lat app = 0
  · rw [if_pos h]
    cases hp : pgo W C p.toNat lat app (ckN W.length p.toNat) 0 0 [] [] [] [] with
    | none => exact .inr (.inl ⟨h, pgo_none _ _ _ _ _ _ _ _ _ _ _ _ hp, rfl⟩)
    | some v =>
      obtain ⟨A, B, D, E⟩ := v
      have := pgo_spec W C p.toNat lat app _ 0 0 [] [] [] [] A B D E rfl (PSpec.start _ _ _ _ _) hp
      rw [Nat.zero_add] at this
      exact .inr (.inr ⟨h, A, B, D, E, rfl, this⟩)
  · rw [if_neg h]
    exact .inl ⟨h, rfl⟩
end Go.Proofs.Ytcflacjidabppaa.Pr

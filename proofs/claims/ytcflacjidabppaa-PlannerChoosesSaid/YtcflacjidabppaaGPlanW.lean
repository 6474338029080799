/- The plan as a value. -/
import Derived.Test.YtcflacjidabppaaGPureQ
namespace Go.Proofs.Ytcflacjidabppaa.Pr
open Go.RowKit Go.Proofs.YtcflacjidabppaaW.PrintWords Go.Proofs.YtcflacjidabppaaW.PrintLast Go.Proofs.YtcflacjidabppaaW.PrintMore
set_option linter.unusedVariables false
set_option linter.unusedSimpArgs false
/-- What Plan answers. -/
def planV (W C : List Int) (p lat app : Int) : List Int × List Int × List Int × List Int × Int × Int :=
  if chkV W C p lat app = 0 then outP p.toNat (pgo W C p.toNat lat app (ckN W.length p.toNat) 0 0 [] [] [] []) else ([], [], [], [], 0, chkV W C p lat app)
theorem okL_all {l : List Int} (h : okL l = true) : ∀ x ∈ l, 0 ≤ x ∧ x ≤ 4096 := by
  intro x hx
  have := List.all_eq_true.1 h x hx
  simp at this
  omega
theorem chk_zero {W C : List Int} {p lat app : Int} (h : chkV W C p lat app = 0) : TrOk W C p.toNat lat app ∧ 1 ≤ p ∧ p ≤ 4096 ∧ okL W = true := by
  unfold chkV at h
  split at h
  · rename_i h1
    split at h
    · rename_i h2
      obtain ⟨a, b, c⟩ := h2
      unfold okP at c
      simp at c
      exact ⟨⟨h1.1, okL_all a, h1.2, okL_all b, by omega, by omega, by omega⟩, by omega, by omega, a⟩
    · cases h
  · cases h
theorem ckN_le {W C : List Int} {P : Nat} {lat app : Int} (hT : TrOk W C P lat app) : ckN W.length P ≤ 4096 ∧ ∀ i : Nat, i < ckN W.length P → i * P ≤ W.length := by
  have h := (ckN_ok W.length P hT.hP.1).2
  have hW := hT.hW
  by_cases hz : ckN W.length P = 0
  · exact ⟨by omega, fun i hi => by omega⟩
  · have h1 := h hz
    have h2 : ckN W.length P - 1 ≤ (ckN W.length P - 1) * P := Nat.le_mul_of_pos_right _ hT.hP.1
    refine ⟨by omega, fun i hi => ?_⟩
    have h3 : i * P ≤ (ckN W.length P - 1) * P := Nat.mul_le_mul_right _ (by omega)
    omega
theorem planPlan_f (W C : List Int) (p lat app : Int) (k : Nat) (hk : 20000 ≤ k) : planner_Plan.f k W C p lat app = some (planV W C p lat app) := by
  unfold planner_Plan.f planV
  rw [planCheck_f W C p lat app k (by omega), Option.bind_some]
  by_cases h : chkV W C p lat app = 0
  · rw [if_pos h, if_pos h]
    obtain ⟨hT, h1, h2, h3⟩ := chk_zero h
    obtain ⟨hn, _⟩ := ckN_le hT
    have hW := hT.hW
    unfold planner_plan.f planner_sizes.f
    rw [if_pos ⟨hT.hW, h3, h1, h2⟩, Option.bind_some, show ((ckAll W p.toNat (ckN W.length p.toNat)).length : Int) = ((ckN W.length p.toNat : Nat) : Int) from by simp [ckAll]]
    have h := plan_l0 W C p.toNat lat app hT (ckN W.length p.toNat) hn (ckN W.length p.toNat) 0 k 0 [] [] [] [] (by omega) (by omega) (PInv.start _ _ _)
    rw [show ((p.toNat : Nat) : Int) = p from by omega] at h
    exact h
  · rw [if_neg h, if_neg h]
theorem pgo_len (W C : List Int) (P : Nat) (lat app : Int) : ∀ m i e A B D E A' B' D' E', pgo W C P lat app m i e A B D E = some (A', B', D', E') → A'.length = A.length + m ∧ B'.length = B.length + m ∧ D'.length = D.length + m ∧ E'.length = E.length + m := by
  intro m
  induction m with
  | zero =>
    intro i e A B D E A' B' D' E' h
    simp only [pgo] at h
    have e := Option.some.inj h
    simp only [Prod.mk.injEq] at e
    obtain ⟨rfl, rfl, rfl, rfl⟩ := e
    exact ⟨rfl, rfl, rfl, rfl⟩
  | succ m ih =>
    intro i e A B D E A' B' D' E' h
    simp only [pgo] at h
    split at h
    · cases h
    · have := ih _ _ _ _ _ _ _ _ _ _ h
      simp only [List.length_append, List.length_singleton] at this
      omega
theorem planV_len (W C : List Int) (p lat app : Int) : (planV W C p lat app).1.length ≤ 4096 ∧ (planV W C p lat app).2.1.length = (planV W C p lat app).1.length ∧ (planV W C p lat app).2.2.1.length = (planV W C p lat app).1.length ∧ (planV W C p lat app).2.2.2.1.length = (planV W C p lat app).1.length := by
  unfold planV
  by_cases h : chkV W C p lat app = 0
  · rw [if_pos h]
    obtain ⟨hT, h1, h2, h3⟩ := chk_zero h
    obtain ⟨hn, hni⟩ := ckN_le hT
    cases hp : pgo W C p.toNat lat app (ckN W.length p.toNat) 0 0 [] [] [] [] with
    | none => simp [outP]
    | some v =>
      obtain ⟨A, B, D, E⟩ := v
      have := pgo_len _ _ _ _ _ _ _ _ _ _ _ _ _ _ _ _ hp
      simp only [List.length_nil, Nat.zero_add] at this
      simp only [outP]
      omega
  · rw [if_neg h]; simp
end Go.Proofs.Ytcflacjidabppaa.Pr

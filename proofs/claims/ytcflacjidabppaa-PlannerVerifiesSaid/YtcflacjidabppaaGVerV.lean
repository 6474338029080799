/- Both verifications and both ages are one. -/
import Derived.Test.YtcflacjidabppaaGPlanV
import Derived.Test.YtcflacjidabppaaGAge
import Derived.Test.YtcflacjidabppaaF22
import Derived.Test.YtcflacjidabppaaF20
namespace Go.Proofs.Ytcflacjidabppaa.Pr
open Go.RowKit Go.Proofs.YtcflacjidabppaaW.PrintWords Go.Proofs.YtcflacjidabppaaW.PrintLast Go.Proofs.YtcflacjidabppaaW.PrintMore
set_option linter.unusedVariables false
set_option linter.unusedSimpArgs false

/-- What Verify answers. -/
def verV (W C : List Int) (p lat app : Int) (a0 a1 a2 a3 : List Int) (a4 : Int) : Int :=
  if (planV W C p lat app).2.2.2.2.2 = 0 then verifyV a0 a1 a2 a3 a4 (planV W C p lat app).1 (planV W C p lat app).2.1 (planV W C p lat app).2.2.1 (planV W C p lat app).2.2.2.1 (planV W C p lat app).2.2.2.2.1 else (planV W C p lat app).2.2.2.2.2

theorem planVerify_f (W C : List Int) (p lat app : Int) (a0 a1 a2 a3 : List Int) (a4 : Int) (k : Nat) (hk : 20000 ≤ k) : planner_Verify.f k W C p lat app a0 a1 a2 a3 a4 = some (verV W C p lat app a0 a1 a2 a3 a4) := by
  unfold planner_Verify.f verV
  rw [planPlan_f W C p lat app k hk, Option.bind_some]
  split <;> rfl

theorem SameG_f (a b c d : List Int) (x : Int) (a' b' c' d' : List Int) (x' : Int) (k : Nat) (h : a.length ≤ 4096 ∧ b.length ≤ 4096 ∧ c.length ≤ 4096 ∧ d.length ≤ 4096) (hk : 5000 ≤ k) :
    standbyref56_Same.f k a b c d x a' b' c' d' x' = some (decide (x = x' ∧ a = a' ∧ b = b' ∧ c = c' ∧ d = d')) := by
  unfold standbyref56_Same.f
  rw [SameInts_f a a' (by omega) k (by omega), SameInts_f b b' (by omega) k (by omega), SameInts_f c c' (by omega) k (by omega), SameInts_f d d' (by omega) k (by omega)]
  simp only [Option.bind_some]
  by_cases h1 : a = a'
  · by_cases h2 : b = b'
    · by_cases h3 : c = c'
      · by_cases h4 : d = d'
        · by_cases h5 : x = x'
          · simp [h1, h2, h3, h4, h5]
          · simp [h1, h2, h3, h4, h5]
        · simp [h1, h2, h3, h4]
      · simp [h1, h2, h3]
    · simp [h1, h2]
  · simp [h1]

theorem refVerify_f (W C : List Int) (p lat app : Int) (a0 a1 a2 a3 : List Int) (a4 : Int) (k : Nat) (hk : 45000 ≤ k) (hW : W.length ≤ 4096) (hC : C.length ≤ 4096) (h0 : a0.length ≤ 4096 ∧ a1.length ≤ 4096 ∧ a2.length ≤ 4096 ∧ a3.length ≤ 4096) :
    standbyref56_Verify.f k W C p lat app a0 a1 a2 a3 a4 = some (verV W C p lat app a0 a1 a2 a3 a4) := by
  unfold standbyref56_Verify.f verV
  rw [refPlan_f W C p lat app k (by omega) hW hC, Option.bind_some]
  have hl := planV_len W C p lat app
  obtain ⟨⟨r1, r2, r3, r4, r5, r6⟩, hV⟩ : ∃ v, planV W C p lat app = v := ⟨_, rfl⟩
  rw [hV] at hl ⊢
  simp only at hl ⊢
  obtain ⟨k, rfl⟩ : ∃ k', k = k' + 1 := ⟨k - 1, by omega⟩
  by_cases hz : r6 = 0
  · rw [if_pos hz, if_pos hz]
    unfold verifyV
    simp only [standbyref56_Verify.j0, if_true, SameG_f a0 a1 a2 a3 a4 r1 r2 r3 r4 r5 k h0 (by omega), Option.bind_some]
    by_cases g0 : a0.length = r1.length
    · rw [if_pos (by omega)]
      by_cases g1 : a1.length = r2.length
      · rw [if_pos (by omega)]
        by_cases g2 : a2.length = r3.length
        · rw [if_pos (by omega)]
          by_cases g3 : a3.length = r4.length
          · have e : ((a3.length : Int) != (r1.length : Int)) = false := by simp; omega
            rw [e]
            simp only [Bool.false_eq_true, if_false]
            by_cases hs : a4 = r5 ∧ a0 = r1 ∧ a1 = r2 ∧ a2 = r3 ∧ a3 = r4
            · rw [if_pos (show a0.length = r1.length ∧ a1.length = r2.length ∧ a2.length = r3.length ∧ a3.length = r4.length from ⟨g0, g1, g2, g3⟩), if_pos hs, decide_eq_true hs]; rfl
            · rw [if_pos (show a0.length = r1.length ∧ a1.length = r2.length ∧ a2.length = r3.length ∧ a3.length = r4.length from ⟨g0, g1, g2, g3⟩), if_neg hs, decide_eq_false hs]; rfl
          · have e : ((a3.length : Int) != (r1.length : Int)) = true := by simp; omega
            rw [e, if_pos rfl, if_neg (fun h => g3 h.2.2.2)]
        · rw [if_neg (by omega), if_neg (fun h => g2 h.2.2.1)]
      · rw [if_neg (by omega), if_neg (fun h => g1 h.2.1)]
    · rw [if_neg (by omega), if_neg (fun h => g0 h.1)]
  · rw [if_neg hz, if_neg hz]

/-- The times at which cycles are applied never become less. -/
theorem pgo_sorted (W C : List Int) (P : Nat) (lat app : Int) (hS : Small (sumsOf C) (rd C ((C.length : Int) - 1))) (hU : Up (sumsOf C)) (hz : ∀ i, 0 ≤ ckSum W P i) : ∀ m i e A B D E A' B' D' E', 0 ≤ e → E.Pairwise (· ≤ ·) → (∀ x ∈ E, x ≤ e + lat + app) →
    pgo W C P lat app m i e A B D E = some (A', B', D', E') → E'.Pairwise (· ≤ ·) := by
  intro m
  induction m with
  | zero =>
    intro i e A B D E A' B' D' E' _ hE _ h
    simp only [pgo] at h
    have e := Option.some.inj h
    simp only [Prod.mk.injEq] at e
    obtain ⟨_, _, _, rfl⟩ := e
    exact hE
  | succ m ih =>
    intro i e A B D E A' B' D' E' h0 hE hx h
    simp only [pgo] at h
    split at h
    · cases h
    · rename_i x hend
      have hst : e ≤ mx (((i + 1) * P : Nat) : Int) e ∧ 0 ≤ mx (((i + 1) * P : Nat) : Int) e := by unfold mx; split <;> omega
      have ht := endT_some _ _ _ _ _ hS hU hst.2 (hz i) hend
      have h1 := ht.1
      refine ih _ _ _ _ _ _ _ _ _ _ (by omega) ?_ ?_ h
      · rw [List.pairwise_append]
        refine ⟨hE, List.pairwise_singleton _ _, fun a ha b hb => ?_⟩
        rw [List.mem_singleton.1 hb]
        have := hx a ha
        omega
      · intro a ha
        rcases List.mem_append.1 ha with ha | ha
        · have := hx a ha; omega
        · rw [List.mem_singleton.1 ha]; exact Int.le_refl _
theorem planV_sorted (W C : List Int) (p lat app : Int) : (planV W C p lat app).2.2.2.1.Pairwise (· ≤ ·) := by
  unfold planV
  by_cases h : chkV W C p lat app = 0
  · rw [if_pos h]
    obtain ⟨hT, h1, h2, h3⟩ := chk_zero h
    cases hp : pgo W C p.toNat lat app (ckN W.length p.toNat) 0 0 [] [] [] [] with
    | none => exact List.Pairwise.nil
    | some v =>
      obtain ⟨A, B, D, E⟩ := v
      exact pgo_sorted W C p.toNat lat app (sums_small hT.hC.1 hT.hC.2 hT.hc) (sums_up hT.hc) (fun i => (ckSum_bd W p.toNat i hT.hW hT.hx).1) _ _ _ _ _ _ _ _ _ _ _ (Int.le_refl 0) List.Pairwise.nil (fun x hx => by cases hx) hp
  · rw [if_neg h]; exact List.Pairwise.nil

/-- What Age answers. -/
def ageV (a0 a3 : List Int) (now e : Int) : Int × Int :=
  if e = 0 then (if 0 ≤ now ∧ now ≤ 1073741824 then (if cntLe a3 now = 0 then (now, 0) else (wrap64 (now - rd a0 ((cntLe a3 now : Int) - 1)), 0)) else (0, 24)) else (0, e)

theorem verV_zero {W C : List Int} {p lat app : Int} {a0 a1 a2 a3 : List Int} {a4 : Int} (h : verV W C p lat app a0 a1 a2 a3 a4 = 0) : a3.Pairwise (· ≤ ·) ∧ a3.length = a0.length := by
  unfold verV at h
  have hs := planV_sorted W C p lat app
  have hl := planV_len W C p lat app
  obtain ⟨⟨r1, r2, r3, r4, r5, r6⟩, hV⟩ : ∃ v, planV W C p lat app = v := ⟨_, rfl⟩
  rw [hV] at h hs hl
  simp only at h hs hl
  split at h
  · unfold verifyV at h
    split at h
    · rename_i hq
      split at h
      · rename_i hr
        obtain ⟨_, rfl, _, _, rfl⟩ := hr
        exact ⟨hs, by omega⟩
      · cases h
    · cases h
  · rename_i hn; exact absurd h hn

theorem planAge_f (W C : List Int) (p lat app : Int) (a0 a1 a2 a3 : List Int) (a4 now : Int) (k : Nat) (hk : 20000 ≤ k) (hl : a3.length ≤ 4096) : planner_Age.f k W C p lat app a0 a1 a2 a3 a4 now = some (ageV a0 a3 now (verV W C p lat app a0 a1 a2 a3 a4)) := by
  unfold planner_Age.f ageV
  rw [planVerify_f W C p lat app a0 a1 a2 a3 a4 k hk, Option.bind_some]
  by_cases hz : verV W C p lat app a0 a1 a2 a3 a4 = 0
  · rw [if_pos hz, if_pos hz]
    obtain ⟨h1, h2⟩ := verV_zero hz
    by_cases hn : 0 ≤ now ∧ now ≤ 1073741824
    · rw [if_pos hn, if_pos hn, if_pos ⟨h1, by omega⟩]
      by_cases hc : cntLe a3 now = 0
      · rw [if_pos hc, if_pos hc]
      · rw [if_neg hc, if_neg hc, if_pos (by have := cntLe_le a3 now; omega)]
    · rw [if_neg hn, if_neg hn]
  · rw [if_neg hz, if_neg hz]

theorem refAge_l0 (a0 a1 a2 a3 : List Int) (a4 now : Int) (hs : a3.Pairwise (· ≤ ·)) (hl : a3.length = a0.length) (hl2 : a0.length ≤ 4096) : ∀ m i k : Nat, i + m = a0.length → m + 1 ≤ k →
    standbyref56_Age.l0 k now (if min i (cntLe a3 now) = 0 then now else wrap64 (now - rd a0 ((min i (cntLe a3 now) : Nat) - 1 : Int))) (i : Int) a0 a1 a2 a3 a4 = some (if cntLe a3 now = 0 then now else wrap64 (now - rd a0 ((cntLe a3 now : Int) - 1)), 0) := by
  have hc := cntLe_le a3 now
  intro m
  induction m with
  | zero =>
    intro i k hi hk
    obtain ⟨k, rfl⟩ : ∃ k', k = k' + 1 := ⟨k - 1, by omega⟩
    simp only [standbyref56_Age.l0]
    rw [if_neg (by omega), show min i (cntLe a3 now) = cntLe a3 now from by omega]
  | succ m ih =>
    intro i k hi hk
    obtain ⟨k, rfl⟩ : ∃ k', k = k' + 1 := ⟨k - 1, by omega⟩
    have hcs := cntLe_sorted a3 now hs i (by omega)
    have hn := ih (i + 1) k (by omega) (by omega)
    rw [show (((i + 1 : Nat)) : Int) = (i : Int) + 1 from by omega] at hn
    simp only [standbyref56_Age.l0]
    rw [if_pos (show (i : Int) < (a0.length : Int) by omega), if_pos (by omega), if_pos (show (i : Int) < (a3.length : Int) by omega), w64 ((i : Int) + 1) (by omega) (by omega)]
    by_cases hle : rd a3 (i : Int) ≤ now
    · have hlt := hcs.1 hle
      rw [if_pos hle]
      have e : min (i + 1) (cntLe a3 now) = i + 1 := by omega
      rw [e, if_neg (by omega), show ((i + 1 : Nat) : Int) - 1 = (i : Int) from by omega] at hn
      exact hn
    · have hge : cntLe a3 now ≤ i := by
        rcases Nat.lt_or_ge i (cntLe a3 now) with h | h
        · exact absurd (hcs.2 h) hle
        · exact h
      rw [if_neg hle]
      have e : min (i + 1) (cntLe a3 now) = min i (cntLe a3 now) := by omega
      rw [e] at hn
      exact hn

theorem refAge_f (W C : List Int) (p lat app : Int) (a0 a1 a2 a3 : List Int) (a4 now : Int) (k : Nat) (hk : 50000 ≤ k) (hW : W.length ≤ 4096) (hC : C.length ≤ 4096) (h0 : a0.length ≤ 4096 ∧ a1.length ≤ 4096 ∧ a2.length ≤ 4096 ∧ a3.length ≤ 4096) :
    standbyref56_Age.f k W C p lat app a0 a1 a2 a3 a4 now = some (ageV a0 a3 now (verV W C p lat app a0 a1 a2 a3 a4)) := by
  unfold standbyref56_Age.f ageV
  rw [refVerify_f W C p lat app a0 a1 a2 a3 a4 k (by omega) hW hC h0, Option.bind_some]
  obtain ⟨k, rfl⟩ : ∃ k', k = k' + 1 := ⟨k - 1, by omega⟩
  by_cases hz : verV W C p lat app a0 a1 a2 a3 a4 = 0
  · rw [if_pos hz, if_pos hz]
    obtain ⟨h1, h2⟩ := verV_zero hz
    simp only [standbyref56_Age.j0]
    by_cases hn0 : now < 0
    · rw [if_pos hn0, if_pos trivial, if_neg (by omega)]
    · rw [if_neg hn0]
      by_cases hn1 : now > 1073741824
      · rw [decide_eq_true hn1, if_pos rfl, if_neg (by omega)]
      · rw [decide_eq_false hn1]
        simp only [Bool.false_eq_true, if_false]
        rw [if_pos (show 0 ≤ now ∧ now ≤ 1073741824 by omega)]
        have h := refAge_l0 a0 a1 a2 a3 a4 now h1 h2 h0.1 a0.length 0 k (by omega) (by omega)
        simp only [Nat.zero_min, if_true, Int.natCast_zero] at h
        rw [h]
        split <;> rfl
  · rw [if_neg hz, if_neg hz]
end Go.Proofs.Ytcflacjidabppaa.Pr

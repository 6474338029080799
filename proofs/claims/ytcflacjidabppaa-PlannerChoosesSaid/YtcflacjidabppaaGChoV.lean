/- The best period and the least rate, as values. -/
import Derived.Test.YtcflacjidabppaaGBet
import Derived.Test.YtcflacjidabppaaGPlanV
import Derived.Test.YtcflacjidabppaaGBestW
import Derived.Test.YtcflacjidabppaaGRate
import Derived.Test.YtcflacjidabppaaF31
import Derived.Test.YtcflacjidabppaaF32
import Derived.Test.YtcflacjidabppaaF33
namespace Go.Proofs.Ytcflacjidabppaa.Pr
open Go.RowKit Go.Proofs.YtcflacjidabppaaW.PrintWords Go.Proofs.YtcflacjidabppaaW.PrintLast Go.Proofs.YtcflacjidabppaaW.PrintMore
set_option linter.unusedVariables false
set_option linter.unusedSimpArgs false
theorem plan_nocap_l (sums : List Int) (last : Int) (C C' : List Int) : ∀ k, (∀ x7 x15 x16 x17 W p q r a b c d e, planner_plan.l0 sums last k x7 x15 x16 x17 W C p q r a b c d e = planner_plan.l0 sums last k x7 x15 x16 x17 W C' p q r a b c d e) ∧ (∀ x7 x12 x15 x16 x17 W p q r a b c d e, planner_plan.j1 sums last k x7 x12 x15 x16 x17 W C p q r a b c d e = planner_plan.j1 sums last k x7 x12 x15 x16 x17 W C' p q r a b c d e) := by
  intro k
  induction k with
  | zero => exact ⟨fun _ _ _ _ _ _ _ _ _ _ _ _ _ => by simp only [planner_plan.l0], fun _ _ _ _ _ _ _ _ _ _ _ _ _ _ => by simp only [planner_plan.j1]⟩
  | succ k ih =>
    obtain ⟨i0, i1⟩ := ih
    refine ⟨fun _ _ _ _ _ _ _ _ _ _ _ _ _ => ?_, fun _ _ _ _ _ _ _ _ _ _ _ _ _ _ => ?_⟩
    · simp only [planner_plan.l0, i1]
    · simp only [planner_plan.j1, i0]
theorem plan_nocap (k : Nat) (W C C' : List Int) (p lat app : Int) (sums : List Int) (last : Int) : planner_plan.f k W C p lat app 0 sums last = planner_plan.f k W C' p lat app 0 sums last := by
  unfold planner_plan.f
  have e : planner_sizes.f W C p lat app = planner_sizes.f W C' p lat app := rfl
  rw [e]
  congr 1
  funext t
  exact (plan_nocap_l sums last C C' k).1 _ _ _ _ _ _ _ _ _ _ _ _ _
theorem chk_per {W C : List Int} {p lat app : Int} (h : chkV W C p lat app = 0) (n : Int) (h1 : 1 ≤ n) (h2 : n ≤ 4096) : chkV W C n lat app = 0 := by
  obtain ⟨hT, _, _, _⟩ := chk_zero h
  exact chk_mk hT.hW hT.hx hT.hC hT.hc ⟨h1, h2⟩ hT.hl hT.ha
theorem chk_cap {W C C' : List Int} {p lat app : Int} (h : chkV W C p lat app = 0) (hC : 1 ≤ C'.length ∧ C'.length ≤ 4096) (hc : ∀ x ∈ C', 0 ≤ x ∧ x ≤ 4096) : chkV W C' p lat app = 0 := by
  obtain ⟨hT, hp1, hp2, _⟩ := chk_zero h
  exact chk_mk hT.hW hT.hx hC hc ⟨hp1, hp2⟩ hT.hl hT.ha
theorem plan_val {W C : List Int} {p lat app : Int} (h : chkV W C p lat app = 0) (k : Nat) (hk : 20000 ≤ k) : planner_plan.f k W C p lat app 0 (sumsOf C) (rd C ((C.length : Int) - 1)) = some (planV W C p lat app) := by
  have e := planPlan_f W C p lat app k hk
  unfold planner_Plan.f at e
  rw [planCheck_f W C p lat app k (by omega), Option.bind_some, if_pos h] at e
  exact e
theorem planW_val {W C : List Int} {p lat app : Int} (h : chkV W C p lat app = 0) (k : Nat) (hk : 20000 ≤ k) : PLANV.f k W C p lat app (sumsOf C) (rd C ((C.length : Int) - 1)) = some (planV W C p lat app) := by
  obtain ⟨hT, _, _, _⟩ := chk_zero h
  unfold PLANV.f
  rw [if_pos ((okSums_iff _ _).2 ⟨sums_small hT.hC.1 hT.hC.2 hT.hc, sums_up hT.hc⟩), plan_val h k hk]
theorem newc_val {W C : List Int} {p lat app : Int} (h : chkV W C p lat app = 0) : NEWCV.f C = some (sumsOf C, rd C ((C.length : Int) - 1)) := by
  obtain ⟨hT, _, _, _⟩ := chk_zero h
  unfold NEWCV.f
  rw [if_pos ((okCap_iff C).2 ⟨hT.hC.2, hT.hc⟩)]
/-- The best of the periods from i + 1 on, m of them, and of what has been found. -/
def bestGo (W C : List Int) (lat app : Int) : Nat → Nat → Int → List Int × List Int × List Int × List Int × Int → Int × List Int × List Int × List Int × List Int × Int × Int
  | 0, _, per, b => if per = 0 then (0, [], [], [], [], 0, 21) else (per, b.1, b.2.1, b.2.2.1, b.2.2.2.1, b.2.2.2.2, 0)
  | m + 1, i, per, b =>
    if (planV W C ((i : Int) + 1) lat app).2.2.2.2.2 = 0 then
      (if per = 0 then bestGo W C lat app m (i + 1) ((i : Int) + 1) ((planV W C ((i : Int) + 1) lat app).1, (planV W C ((i : Int) + 1) lat app).2.1, (planV W C ((i : Int) + 1) lat app).2.2.1, (planV W C ((i : Int) + 1) lat app).2.2.2.1, (planV W C ((i : Int) + 1) lat app).2.2.2.2.1)
       else if (planV W C ((i : Int) + 1) lat app).2.2.2.2.1 < b.2.2.2.2 then bestGo W C lat app m (i + 1) ((i : Int) + 1) ((planV W C ((i : Int) + 1) lat app).1, (planV W C ((i : Int) + 1) lat app).2.1, (planV W C ((i : Int) + 1) lat app).2.2.1, (planV W C ((i : Int) + 1) lat app).2.2.2.1, (planV W C ((i : Int) + 1) lat app).2.2.2.2.1)
       else bestGo W C lat app m (i + 1) per b)
    else bestGo W C lat app m (i + 1) per b
section
variable {W C : List Int} {p lat app : Int} (h : chkV W C p lat app = 0)
include h
theorem best_l0 (most : Nat) (hm : most ≤ 4096) : ∀ d i k : Nat, i + d = most → 20001 + 2 * d ≤ k → ∀ (per x : Int) (b : List Int × List Int × List Int × List Int × Int), planner_Best.l0 k per (most : Int) (i : Int) W C x lat app (sumsOf C) (rd C ((C.length : Int) - 1)) b.1 b.2.1 b.2.2.1 b.2.2.2.1 b.2.2.2.2 = some (bestGo W C lat app d i per b) := by
  intro d
  induction d with
  | zero =>
    intro i k hi hk per x b
    obtain ⟨k, rfl⟩ : ∃ k', k = k' + 1 := ⟨k - 1, by omega⟩
    simp only [planner_Best.l0, bestGo]
    rw [if_neg (by omega)]
    by_cases hp : per = 0
    · rw [if_pos hp, if_pos hp]
    · rw [if_neg hp, if_neg hp]
  | succ d ih =>
    intro i k hi hk per x b
    obtain ⟨k, rfl⟩ : ∃ k', k = k' + 1 := ⟨k - 1, by omega⟩
    obtain ⟨k, rfl⟩ : ∃ k', k = k' + 1 := ⟨k - 1, by omega⟩
    have e3 : wrap64 ((i : Int) + 1) = (i : Int) + 1 := w64 _ (by omega) (by omega)
    have e4 : (i : Int) + 1 = ((i + 1 : Nat) : Int) := by omega
    have hv := planW_val (chk_per h ((i : Int) + 1) (by omega) (by omega)) (k + 1) (by omega)
    simp only [planner_Best.l0, planner_Best.j1, bestGo, e3]
    rw [if_pos (by omega), hv, Option.bind_some]
    rw [e4] at *
    have h1 := fun per x b => ih (i + 1) k (by omega) (by omega) per x b
    by_cases c1 : (planV W C ((i + 1 : Nat) : Int) lat app).2.2.2.2.2 = 0
    · rw [if_pos c1, if_pos c1]
      by_cases c2 : per = 0
      · rw [if_pos c2, if_pos c2, if_pos trivial]; exact h1 _ _ ((planV W C ((i + 1 : Nat) : Int) lat app).1, (planV W C ((i + 1 : Nat) : Int) lat app).2.1, (planV W C ((i + 1 : Nat) : Int) lat app).2.2.1, (planV W C ((i + 1 : Nat) : Int) lat app).2.2.2.1, (planV W C ((i + 1 : Nat) : Int) lat app).2.2.2.2.1)
      · rw [if_neg c2, if_neg c2]
        by_cases c3 : (planV W C ((i + 1 : Nat) : Int) lat app).2.2.2.2.1 < b.2.2.2.2
        · rw [if_pos (decide_eq_true c3), if_pos c3]; exact h1 _ _ ((planV W C ((i + 1 : Nat) : Int) lat app).1, (planV W C ((i + 1 : Nat) : Int) lat app).2.1, (planV W C ((i + 1 : Nat) : Int) lat app).2.2.1, (planV W C ((i + 1 : Nat) : Int) lat app).2.2.2.1, (planV W C ((i + 1 : Nat) : Int) lat app).2.2.2.2.1)
        · rw [if_neg (by rw [decide_eq_false c3]; simp), if_neg c3]; exact h1 _ _ b
    · rw [if_neg c1, if_neg c1, if_neg (by simp)]; exact h1 _ _ b
theorem rbest_l0 (most : Nat) (hm : most ≤ 4096) : ∀ d i k : Nat, i + d = most → 40001 + 2 * d ≤ k → ∀ (per x : Int) (b : List Int × List Int × List Int × List Int × Int), standbyref56_Best.l0 k (most : Int) per ((i : Int) + 1) W C x lat app b.1 b.2.1 b.2.2.1 b.2.2.2.1 b.2.2.2.2 = some (bestGo W C lat app d i per b) := by
  obtain ⟨hT, _, _, _⟩ := chk_zero h
  intro d
  induction d with
  | zero =>
    intro i k hi hk per x b
    obtain ⟨k, rfl⟩ : ∃ k', k = k' + 1 := ⟨k - 1, by omega⟩
    simp only [standbyref56_Best.l0, bestGo]
    rw [if_neg (by omega)]
    by_cases hp : per = 0
    · rw [if_pos hp, if_pos hp]
    · rw [if_neg hp, if_neg hp]
  | succ d ih =>
    intro i k hi hk per x b
    obtain ⟨k, rfl⟩ : ∃ k', k = k' + 1 := ⟨k - 1, by omega⟩
    obtain ⟨k, rfl⟩ : ∃ k', k = k' + 1 := ⟨k - 1, by omega⟩
    have e4 : (i : Int) + 1 = ((i + 1 : Nat) : Int) := by omega
    have e3 : wrap64 (((i + 1 : Nat) : Int) + 1) = ((i + 1 : Nat) : Int) + 1 := w64 _ (by omega) (by omega)
    have hv := refPlan_f W C ((i + 1 : Nat) : Int) lat app (k + 1) (by omega) hT.hW hT.hC.2
    rw [e4]
    simp only [standbyref56_Best.l0, standbyref56_Best.j2, bestGo, e3, e4]
    rw [if_pos (by omega), hv, Option.bind_some]
    have h1 := fun per x b => ih (i + 1) k (by omega) (by omega) per x b
    by_cases c1 : (planV W C ((i + 1 : Nat) : Int) lat app).2.2.2.2.2 = 0
    · rw [if_pos c1, if_pos c1]
      by_cases c2 : per = 0
      · rw [if_pos c2, if_pos c2, if_pos trivial]; exact h1 _ _ ((planV W C ((i + 1 : Nat) : Int) lat app).1, (planV W C ((i + 1 : Nat) : Int) lat app).2.1, (planV W C ((i + 1 : Nat) : Int) lat app).2.2.1, (planV W C ((i + 1 : Nat) : Int) lat app).2.2.2.1, (planV W C ((i + 1 : Nat) : Int) lat app).2.2.2.2.1)
      · rw [if_neg c2, if_neg c2]
        by_cases c3 : (planV W C ((i + 1 : Nat) : Int) lat app).2.2.2.2.1 < b.2.2.2.2
        · rw [if_pos (decide_eq_true c3), if_pos c3]; exact h1 _ _ ((planV W C ((i + 1 : Nat) : Int) lat app).1, (planV W C ((i + 1 : Nat) : Int) lat app).2.1, (planV W C ((i + 1 : Nat) : Int) lat app).2.2.1, (planV W C ((i + 1 : Nat) : Int) lat app).2.2.2.1, (planV W C ((i + 1 : Nat) : Int) lat app).2.2.2.2.1)
        · rw [if_neg (by rw [decide_eq_false c3]; simp), if_neg c3]; exact h1 _ _ b
    · rw [if_neg c1, if_neg c1, if_neg (by simp)]; exact h1 _ _ b
end
/-- What Best answers. -/
def bestV (W C : List Int) (lat app most : Int) : Int × List Int × List Int × List Int × List Int × Int × Int :=
  if 1 ≤ most ∧ most ≤ 4096 then (if chkV W C 1 lat app = 0 then bestGo W C lat app most.toNat 0 0 ([], [], [], [], 0) else (0, [], [], [], [], 0, chkV W C 1 lat app)) else (0, [], [], [], [], 0, 2)
theorem best_f (W C : List Int) (p lat app most : Int) (k : Nat) (hk : 30000 ≤ k) : planner_Best.f k W C p lat app most = some (bestV W C lat app most) := by
  unfold planner_Best.f bestV
  rw [between_some, Option.bind_some]
  by_cases h : 1 ≤ most ∧ most ≤ 4096
  · rw [if_pos h, if_pos (by simp [h.1, h.2]), planCheck_f W C 1 lat app k (by omega), Option.bind_some]
    by_cases hc : chkV W C 1 lat app = 0
    · rw [if_pos hc, if_pos hc, newc_val hc, Option.bind_some]
      have := best_l0 hc most.toNat (by omega) most.toNat 0 k (by omega) (by omega) 0 1 ([], [], [], [], 0)
      rw [show ((most.toNat : Nat) : Int) = most from by omega] at this
      exact this
    · rw [if_neg hc, if_neg hc]
  · rw [if_neg h, if_neg (by simp; omega)]
theorem rbest_f (W C : List Int) (p lat app most : Int) (k : Nat) (hk : 50000 ≤ k) (hW : W.length ≤ 4096) (hC : C.length ≤ 4096) : standbyref56_Best.f k W C p lat app most = some (bestV W C lat app most) := by
  obtain ⟨k, rfl⟩ : ∃ k', k = k' + 1 := ⟨k - 1, by omega⟩
  unfold standbyref56_Best.f bestV
  by_cases h1 : most < 1
  · rw [if_pos h1, if_neg (by omega)]; simp [standbyref56_Best.j0]
  rw [if_neg h1]
  simp only [standbyref56_Best.j0]
  by_cases h2 : most > 4096
  · rw [if_pos (decide_eq_true h2), if_neg (by omega)]
  rw [if_neg (by rw [decide_eq_false h2]; simp), if_pos (by omega), refCheck_f W C 1 lat app k (by omega), Option.bind_some]
  by_cases hc : chkV W C 1 lat app = 0
  · rw [if_pos hc, if_pos hc]
    have := rbest_l0 hc most.toNat (by omega) most.toNat 0 k (by omega) (by omega) 0 1 ([], [], [], [], 0)
    rw [show ((most.toNat : Nat) : Int) = most from by omega] at this
    exact this
  · rw [if_neg hc, if_neg hc]
theorem bestGo_len (W C : List Int) (lat app : Int) : ∀ (m i : Nat) (per : Int) (b : List Int × List Int × List Int × List Int × Int), (b.1.length ≤ 4096 ∧ b.2.1.length ≤ 4096 ∧ b.2.2.1.length ≤ 4096 ∧ b.2.2.2.1.length ≤ 4096) →
    (bestGo W C lat app m i per b).2.1.length ≤ 4096 ∧ (bestGo W C lat app m i per b).2.2.1.length ≤ 4096 ∧ (bestGo W C lat app m i per b).2.2.2.1.length ≤ 4096 ∧ (bestGo W C lat app m i per b).2.2.2.2.1.length ≤ 4096 := by
  intro m
  induction m with
  | zero =>
    intro i per b hb
    simp only [bestGo]
    split
    · simp
    · exact hb
  | succ m ih =>
    intro i per b hb
    have hl := planV_len W C ((i : Int) + 1) lat app
    simp only [bestGo]
    split
    · split
      · exact ih _ _ _ (by simp only []; omega)
      · split
        · exact ih _ _ _ (by simp only []; omega)
        · exact ih _ _ _ hb
    · exact ih _ _ _ hb
theorem bestV_len (W C : List Int) (lat app most : Int) : (bestV W C lat app most).2.1.length ≤ 4096 ∧ (bestV W C lat app most).2.2.1.length ≤ 4096 ∧ (bestV W C lat app most).2.2.2.1.length ≤ 4096 ∧ (bestV W C lat app most).2.2.2.2.1.length ≤ 4096 := by
  unfold bestV
  split
  · split
    · exact bestGo_len _ _ _ _ _ _ _ _ (by simp)
    · simp
  · simp
/-- The bound with a rate. -/
def bndR (W : List Int) (p lat app : Int) (r : Int) : Int := (planV W [r] p lat app).2.2.2.2.1
section
variable {W : List Int} {p lat app : Int} (h : chkV W [1] p lat app = 0)
include h
theorem rate_ok (r : Int) (h1 : 1 ≤ r) (h2 : r ≤ 4096) : chkV W [r] p lat app = 0 ∧ ∃ A B D E, planV W [r] p lat app = (A, B, D, E, bndN p.toNat E E.length, 0) ∧ PSpec W [r] p.toNat lat app (ckN W.length p.toNat) A B D E := by
  have hc := chk_cap (C' := [r]) h (by simp) (by intro x hx; simp at hx; omega)
  refine ⟨hc, ?_⟩
  rcases planV_cases W [r] p lat app with ⟨a, _⟩ | ⟨_, hz, _⟩ | ⟨_, hz⟩
  · exact absurd hc a
  · have : rd [r] ((([r] : List Int).length : Int) - 1) = r := rfl
    omega
  · exact hz
theorem rate_err (r : Int) (h1 : 1 ≤ r) (h2 : r ≤ 4096) : (planV W [r] p lat app).2.2.2.2.2 = 0 := by
  obtain ⟨_, A, B, D, E, e, _⟩ := rate_ok h r h1 h2
  rw [e]
theorem bndR_mono (r s : Int) (h1 : 1 ≤ r) (hrs : r ≤ s) (h2 : s ≤ 4096) : bndR W p lat app s ≤ bndR W p lat app r := by
  obtain ⟨hc, A, B, D, E, e, hS⟩ := rate_ok h r h1 (by omega)
  obtain ⟨hc', A', B', D', E', e', hS'⟩ := rate_ok h s (by omega) h2
  have hB : Better W W [r] [s] p.toNat lat lat app := ⟨(chk_zero hc).1, (chk_zero hc').1, rfl, rfl, fun k => Int.le_refl _, fun k hk => by
    have : k = 0 := by simpa using hk
    subst this
    exact hrs, Int.le_refl _⟩
  have := hB.bound hS hS'
  unfold bndR
  rw [e, e']
  exact this
theorem keeps_val (obj i : Int) (h0 : 0 ≤ i) (h1 : i < 4096) (k : Nat) (hk : 20000 ≤ k) : keepsV k W p lat app obj i = some (decide (bndR W p lat app (i + 1) ≤ obj)) := by
  have hc := (rate_ok h (i + 1) (by omega) (by omega)).1
  have he := rate_err h (i + 1) (by omega) (by omega)
  have hv := plan_val hc k hk
  unfold keepsV
  have e : planner_plan.f k W [1] p lat app 0 (sumsOf [i + 1]) (i + 1) = some (planV W [i + 1] p lat app) := by
    rw [← hv]
    exact plan_nocap k W [1] [i + 1] p lat app _ _
  rw [e, Option.map_some]
  unfold bndR
  simp only [he, true_and]
/-- The least rate. -/
structure IsRate (obj r : Int) : Prop where
  lo : 1 ≤ r
  hi : r ≤ 4096
  keeps : bndR W p lat app r ≤ obj
  less : ∀ s : Int, 1 ≤ s → s < r → obj < bndR W p lat app s
end
theorem IsRate.uniq {W : List Int} {p lat app obj r s : Int} (h : IsRate (W := W) (p := p) (lat := lat) (app := app) obj r) (h2 : IsRate (W := W) (p := p) (lat := lat) (app := app) obj s) : r = s := by
  have a := h.lo; have b := h2.lo; have c := h.keeps; have d := h2.keeps
  rcases Int.lt_trichotomy r s with e | e | e
  · have := h2.less r a e; omega
  · exact e
  · have := h.less s b e; omega
theorem srch_val (K : Int → Bool) (pr : Int → Option Bool) (N : Int) (hp : ∀ i, 0 ≤ i → i < N → pr i = some (K i)) (hm : ∀ i j, 0 ≤ i → i ≤ j → j < N → K i = true → K j = true) : ∀ (n : Nat) (i j : Int), 0 ≤ i → i ≤ j → j ≤ N → j - i < 2 ^ n → (∀ x, 0 ≤ x → x < i → K x = false) → (j < N → K j = true) → ∃ r, srchO pr n i j = some r ∧ 0 ≤ r ∧ r ≤ N ∧ (∀ x, 0 ≤ x → x < r → K x = false) ∧ (r < N → K r = true) := by
  intro n
  induction n with
  | zero =>
    intro i j h0 hij hjN hlt hl hh
    obtain rfl : i = j := by omega
    exact ⟨i, by simp [srchO], h0, hjN, hl, hh⟩
  | succ n ih =>
    intro i j h0 hij hjN hlt hl hh
    have e2 : (2 : Int) ^ (n + 1) = 2 * 2 ^ n := by rw [Int.pow_succ]; omega
    unfold srchO
    by_cases hc : i < j
    · rw [if_pos hc, hp ((i + j) / 2) (by omega) (by omega), Option.bind_some]
      cases hk : K ((i + j) / 2)
      · rw [if_neg (by simp)]
        refine ih ((i + j) / 2 + 1) j (by omega) (by omega) hjN (by omega) (fun x hx0 hx => ?_) hh
        cases hx2 : K x
        · rfl
        · have := hm x ((i + j) / 2) hx0 (by omega) (by omega) hx2
          rw [hk] at this; cases this
      · rw [if_pos rfl]
        exact ih i ((i + j) / 2) h0 (by omega) (by omega) (by omega) hl (fun _ => hk)
    · rw [if_neg hc]
      obtain rfl : i = j := by omega
      exact ⟨i, rfl, h0, hjN, hl, hh⟩
/-- What Rate answers. -/
structure RateIs (W : List Int) (p lat app obj : Int) (r : Int × Int) : Prop where
  ok : (0 ≤ obj ∧ obj ≤ 1073741824) → chkV W [1] p lat app = 0 → (r = (0, 21) ∧ obj < bndR W p lat app 4096) ∨ (r.2 = 0 ∧ IsRate (W := W) (p := p) (lat := lat) (app := app) obj r.1)
  bad : (0 ≤ obj ∧ obj ≤ 1073741824) → chkV W [1] p lat app ≠ 0 → r = (0, chkV W [1] p lat app)
  far : ¬ (0 ≤ obj ∧ obj ≤ 1073741824) → r = (0, 2)
theorem RateIs.uniq {W : List Int} {p lat app obj : Int} {r s : Int × Int} (h : RateIs W p lat app obj r) (h2 : RateIs W p lat app obj s) : r = s := by
  by_cases ho : 0 ≤ obj ∧ obj ≤ 1073741824
  · by_cases hc : chkV W [1] p lat app = 0
    · rcases h.ok ho hc with ⟨e1, f1⟩ | ⟨e1, f1⟩
      · rcases h2.ok ho hc with ⟨e2, f2⟩ | ⟨e2, f2⟩
        · rw [e1, e2]
        · have := f2.keeps; have a := f2.lo; have b := f2.hi
          have := bndR_mono hc s.1 4096 a b (Int.le_refl _)
          omega
      · rcases h2.ok ho hc with ⟨e2, f2⟩ | ⟨e2, f2⟩
        · have := f1.keeps; have a := f1.lo; have b := f1.hi
          have := bndR_mono hc r.1 4096 a b (Int.le_refl _)
          omega
        · exact Prod.ext (f1.uniq f2) (by rw [e1, e2])
    · rw [h.bad ho hc, h2.bad ho hc]
  · rw [h.far ho, h2.far ho]
theorem rate_f (W C : List Int) (p lat app obj : Int) (k : Nat) (hk : 20000 ≤ k) : ∃ r, planner_Rate.f k W C p lat app obj = some r ∧ RateIs W p lat app obj r := by
  unfold planner_Rate.f
  by_cases ho : 0 ≤ obj ∧ obj ≤ 1073741824
  · rw [if_pos ho, planCheck_f W [1] p lat app k (by omega), Option.bind_some]
    by_cases hc : chkV W [1] p lat app = 0
    · rw [if_pos hc]
      obtain ⟨r, hr, r0, r1, r2, r3⟩ := srch_val (fun i => decide (bndR W p lat app (i + 1) ≤ obj)) (keepsV k W p lat app obj) 4096 (fun i h0 h1 => keeps_val hc obj i h0 h1 k hk)
        (fun i j h0 hij hj hi => by
          simp only [decide_eq_true_eq] at hi ⊢
          have := bndR_mono hc (i + 1) (j + 1) (by omega) (by omega) (by omega)
          omega) 64 0 4096 (by omega) (by omega) (by omega) (by decide) (fun x h0 h1 => by omega) (fun e => by omega)
      rw [hr, Option.bind_some]
      by_cases h4 : r < 4096
      · rw [if_pos ⟨r0, h4⟩]
        refine ⟨_, rfl, fun _ _ => Or.inr ⟨rfl, ⟨by show 1 ≤ 1 + r; omega, by show 1 + r ≤ 4096; omega, ?_, fun s hs1 hs2 => ?_⟩⟩, fun _ e => absurd hc e, fun e => absurd ho e⟩
        · have := r3 h4
          simp only [decide_eq_true_eq] at this
          show bndR W p lat app (1 + r) ≤ obj
          rw [Int.add_comm]; exact this
        · have hs3 : s < 1 + r := hs2
          have := r2 (s - 1) (by omega) (by omega)
          simp only [decide_eq_false_iff_not] at this
          rw [show s - 1 + 1 = s from by omega] at this
          omega
      · rw [if_neg (by omega), if_pos (by omega)]
        refine ⟨_, rfl, fun _ _ => Or.inl ⟨rfl, ?_⟩, fun _ e => absurd hc e, fun e => absurd ho e⟩
        have := r2 4095 (by omega) (by omega)
        simp only [decide_eq_false_iff_not] at this
        rw [show (4095 : Int) + 1 = 4096 from rfl] at this
        omega
    · rw [if_neg hc]
      exact ⟨_, rfl, fun _ e => absurd e hc, fun _ _ => rfl, fun e => absurd ho e⟩
  · rw [if_neg ho]
    exact ⟨_, rfl, fun e => absurd e ho, fun e => absurd e ho, fun _ => rfl⟩
theorem rrate_l0 {W : List Int} {p lat app : Int} (h : chkV W [1] p lat app = 0) (obj : Int) : ∀ (n : Nat) (lo hi : Int) (y : List Int) (k : Nat), 0 ≤ lo → lo < hi → hi ≤ 4096 → hi - lo ≤ 2 ^ n → 41000 + n ≤ k → (1 ≤ lo → obj < bndR W p lat app lo) → bndR W p lat app hi ≤ obj → ∃ r, standbyref56_Rate.l0 k obj lo hi W y p lat app = some (r, 0) ∧ IsRate (W := W) (p := p) (lat := lat) (app := app) obj r := by
  obtain ⟨hT, _, _, _⟩ := chk_zero h
  have hW := hT.hW
  intro n
  induction n with
  | zero =>
    intro lo hi y k h0 hlt hh hd hk hl hu
    obtain ⟨k, rfl⟩ : ∃ k', k = k' + 1 := ⟨k - 1, by omega⟩
    have hd1 : hi - lo ≤ 1 := hd
    simp only [standbyref56_Rate.l0]
    rw [w64 (hi - lo) (by omega) (by omega), if_neg (by omega)]
    refine ⟨hi, rfl, by omega, hh, hu, fun s hs1 hs2 => ?_⟩
    have := hl (by omega)
    have := bndR_mono h s lo hs1 (by omega) (by omega)
    omega
  | succ n ih =>
    intro lo hi y k h0 hlt hh hd hk hl hu
    obtain ⟨k, rfl⟩ : ∃ k', k = k' + 1 := ⟨k - 1, by omega⟩
    have e2 : (2 : Int) ^ (n + 1) = 2 * 2 ^ n := by rw [Int.pow_succ]; omega
    simp only [standbyref56_Rate.l0]
    rw [w64 (hi - lo) (by omega) (by omega)]
    by_cases hc : hi - lo > 1
    · have em : wrap64 (Int.tdiv (wrap64 (lo + hi)) 2) = (lo + hi) / 2 := by
        rw [w64 (lo + hi) (by omega) (by omega), Int.tdiv_eq_ediv_of_nonneg (by omega), w64 _ (by omega) (by omega)]
      rw [if_pos hc, em, Option.bind_some, refPlan_f W [(lo + hi) / 2] p lat app k (by omega) hW (by simp), Option.bind_some]
      by_cases hb : (planV W [(lo + hi) / 2] p lat app).2.2.2.2.1 ≤ obj
      · rw [if_pos hb]
        exact ih lo ((lo + hi) / 2) _ k h0 (by omega) (by omega) (by omega) (by omega) hl hb
      · rw [if_neg hb]
        exact ih ((lo + hi) / 2) hi _ k (by omega) (by omega) hh (by omega) (by omega) (fun _ => by unfold bndR; omega) hu
    · rw [if_neg hc]
      refine ⟨hi, rfl, by omega, hh, hu, fun s hs1 hs2 => ?_⟩
      have := hl (by omega)
      have := bndR_mono h s lo hs1 (by omega) (by omega)
      omega
theorem rrate_f (W C : List Int) (p lat app obj : Int) (k : Nat) (hk : 50000 ≤ k) (hW : W.length ≤ 4096) : ∃ r, standbyref56_Rate.f k W C p lat app obj = some r ∧ RateIs W p lat app obj r := by
  obtain ⟨k, rfl⟩ : ∃ k', k = k' + 1 := ⟨k - 1, by omega⟩
  unfold standbyref56_Rate.f
  have far : ¬ (0 ≤ obj ∧ obj ≤ 1073741824) → RateIs W p lat app obj (0, 2) := fun ho => ⟨fun e => absurd e ho, fun e => absurd e ho, fun _ => rfl⟩
  by_cases h1 : obj < 0
  · rw [if_pos h1]
    exact ⟨(0, 2), by simp [standbyref56_Rate.j0], far (by omega)⟩
  rw [if_neg h1]
  simp only [standbyref56_Rate.j0]
  by_cases h2 : obj > 1073741824
  · rw [if_pos (decide_eq_true h2)]
    exact ⟨_, rfl, far (by omega)⟩
  have ho : 0 ≤ obj ∧ obj ≤ 1073741824 := by omega
  rw [if_neg (by rw [decide_eq_false h2]; simp), refCheck_f W [1] p lat app k (by simp; omega), Option.bind_some]
  by_cases hc : chkV W [1] p lat app = 0
  · rw [if_pos hc, Option.bind_some, refPlan_f W [4096] p lat app k (by omega) hW (by simp), Option.bind_some]
    by_cases hb : (planV W [4096] p lat app).2.2.2.2.1 > obj
    · rw [if_pos hb]
      exact ⟨_, rfl, fun _ _ => Or.inl ⟨rfl, hb⟩, fun _ e => absurd hc e, fun e => absurd ho e⟩
    · rw [if_neg hb]
      obtain ⟨r, hr, hR⟩ := rrate_l0 hc obj 12 0 4096 [4096] k (by omega) (by omega) (by omega) (by decide) (by omega) (fun e => by omega) (by unfold bndR; omega)
      exact ⟨_, hr, fun _ _ => Or.inr ⟨rfl, hR⟩, fun _ e => absurd hc e, fun e => absurd ho e⟩
  · rw [if_neg hc]
    exact ⟨_, rfl, fun _ e => absurd e hc, fun _ _ => rfl, fun e => absurd ho e⟩
end Go.Proofs.Ytcflacjidabppaa.Pr

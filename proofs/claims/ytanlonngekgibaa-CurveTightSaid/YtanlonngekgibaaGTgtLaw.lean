/- The law CurveTight. -/
import Derived.Test.YtanlonngekgibaaGTgt
import Derived.Test.YtanlonngekgibaaGAwakeR
import Derived.Test.YtanlonngekgibaaF18
import Derived.Test.YtanlonngekgibaaF8
namespace Go.Proofs.Ytanlonngekgibaa.Pr
open Go.RowKit Go.Proofs.YtanlonngekgibaaW.PrintWords Go.Proofs.YtanlonngekgibaaW.PrintLast Go.Proofs.YtanlonngekgibaaW.PrintMore
set_option linter.unusedVariables false
set_option linter.unusedSimpArgs false
theorem tAt_f {l : List Int} {s : Int} (h : CurOk l s) (x : Int) (h0 : 0 ≤ x) (h1 : x ≤ 1073741824) (k : Nat) (hk : 5000 ≤ k) : curve_At.f k l s x = some (cv l s x) := by
  unfold curve_At.f
  rw [check_f l s k hk, tok_chk h, Option.bind_some, if_pos rfl, if_neg (by omega), show mn x 1073741824 = x from by unfold mn; split <;> omega, at_f h x h0 h1]; rfl
section
variable {l : List Int} {s : Int} {m : List Int} {t : Int} (hl : CurOk l s) (hm : CurOk m t)
include hl hm
theorem tight_l1 (B : Int) : ∀ d i K : Nat, i + d = 70 → 30000 + d ≤ K → K < 30500 → ∀ b : Bool, (b = true ∨ ∃ j : Nat, i ≤ j ∧ j < 70 ∧ cv l s (j : Int) - cv m t (j : Int) = B) → standbylaw55_CurveTight.l1 K B b (i : Int) l s m t = some true := by
  intro d
  induction d with
  | zero =>
    intro i K hi hK hK2 b hb
    obtain ⟨K, rfl⟩ : ∃ K', K = K' + 1 := ⟨K - 1, by omega⟩
    rcases hb with rfl | ⟨j, h1, h2, _⟩
    · simp only [standbylaw55_CurveTight.l1]
      rw [if_neg (by omega), if_pos trivial, awake_rg K (by omega) (by omega)]; rfl
    · omega
  | succ d ih =>
    intro i K hi hK hK2 b hb
    obtain ⟨K, rfl⟩ : ∃ K', K = K' + 1 := ⟨K - 1, by omega⟩
    have e3 : wrap64 ((i : Int) + 1) = ((i + 1 : Nat) : Int) := by rw [w64 _ (by omega) (by omega)]; omega
    have p := cv_bd hl (i : Int) (by omega) (by omega); have q := cv_bd hm (i : Int) (by omega) (by omega)
    simp only [standbylaw55_CurveTight.l1, e3]
    rw [if_pos (by omega)]
    cases b
    · rw [if_neg (by simp), tAt_f hl (i : Int) (by omega) (by omega) K (by omega), tAt_f hm (i : Int) (by omega) (by omega) K (by omega), Option.bind_some, Option.bind_some, w64 (cv l s (i : Int) - cv m t (i : Int)) (by omega) (by omega)]
      refine ih (i + 1) K (by omega) (by omega) (by omega) _ ?_
      rcases hb with hb | ⟨j, h1, h2, h3⟩
      · exact absurd hb (by simp)
      · by_cases e : j = i
        · subst e; exact Or.inl (by simpa using h3)
        · exact Or.inr ⟨j, by omega, h2, h3⟩
    · rw [if_pos rfl]
      exact ih (i + 1) K (by omega) (by omega) (by omega) _ (Or.inl rfl)
theorem tight_j3 (n : Nat) (hn : n ≤ 255) (h60 : l.length ≤ 60) (h61 : m.length ≤ 60) (K : Nat) (hK : 30100 ≤ K) (hK2 : K < 30500) : standbylaw55_CurveTight.j3 K (n : Int) l s m t = some true := by
  obtain ⟨K, rfl⟩ : ∃ K', K = K' + 1 := ⟨K - 1, by omega⟩
  simp only [standbylaw55_CurveTight.j3]
  rcases backlog_val hl hm K (by omega) with ⟨_, h⟩ | ⟨hst, h⟩
  · rw [h, Option.bind_some, if_neg (by show ¬ (21 : Int) = 0; decide), awake_rg K (by omega) (by omega)]; rfl
  · have p := cv_bd hl (n : Int) (by omega) (by omega); have q := cv_bd hm (n : Int) (by omega) (by omega)
    have h0 := (grF_bd (blgV l s m t) (max l.length m.length)).1
    have h1 := backlog_sup hl hm hst n
    have h2 := backlog_tight hl hm hst
    rw [h, Option.bind_some, if_pos rfl]
    obtain ⟨B, hB⟩ : ∃ B, grF (blgV l s m t) (max l.length m.length) = B := ⟨_, rfl⟩
    rw [hB] at h0 h1 h2 ⊢
    show (if B < 0 then none else _) = _
    rw [if_neg (by omega), tAt_f hl (n : Int) (by omega) (by omega) K (by omega), tAt_f hm (n : Int) (by omega) (by omega) K (by omega), Option.bind_some, Option.bind_some, w64 (cv l s (n : Int) - cv m t (n : Int)) (by omega) (by omega), if_neg (by show ¬ _ > B; omega)]
    refine tight_l1 hl hm B 70 0 K (by omega) (by omega) (by omega) _ ?_
    rcases h2 with e | ⟨i, hi, e⟩
    · exact Or.inl (by simpa using e)
    · exact Or.inr ⟨i, by omega, by omega, e⟩
theorem tight_l0 (n : Nat) (hn : n ≤ 255) (h60 : l.length ≤ 60) (h61 : m.length ≤ 60) (D : Int) (hD0 : 0 ≤ D) (hD1 : D < 536870912) : ∀ d i K : Nat, i + d = 70 → 30200 + d ≤ K → K < 30500 → ∀ b : Bool, (b = true ∨ ∃ j : Nat, i ≤ j ∧ j < 70 ∧ 1 ≤ D ∧ cv m t ((j : Int) + D - 1) < cv l s (j : Int)) → standbylaw55_CurveTight.l0 K (n : Int) D b (i : Int) l s m t = some true := by
  intro d
  induction d with
  | zero =>
    intro i K hi hK hK2 b hb
    obtain ⟨K, rfl⟩ : ∃ K', K = K' + 1 := ⟨K - 1, by omega⟩
    rcases hb with rfl | ⟨j, h1, h2, _⟩
    · simp only [standbylaw55_CurveTight.l0]
      rw [if_neg (by omega), if_pos trivial, tight_j3 hl hm n hn h60 h61 K (by omega) (by omega)]
    · omega
  | succ d ih =>
    intro i K hi hK hK2 b hb
    obtain ⟨K, rfl⟩ : ∃ K', K = K' + 1 := ⟨K - 1, by omega⟩
    have e3 : wrap64 ((i : Int) + 1) = ((i + 1 : Nat) : Int) := by rw [w64 _ (by omega) (by omega)]; omega
    simp only [standbylaw55_CurveTight.l0, e3]
    rw [if_pos (by omega)]
    cases b
    · obtain ⟨j, h1, h2, hD, h3⟩ := hb.resolve_left (by simp)
      rw [if_neg (by simp), w64 ((i : Int) + D) (by omega) (by omega), w64 ((i : Int) + D - 1) (by omega) (by omega), tAt_f hm ((i : Int) + D - 1) (by omega) (by omega) K (by omega), tAt_f hl (i : Int) (by omega) (by omega) K (by omega), Option.bind_some, Option.bind_some]
      refine ih (i + 1) K (by omega) (by omega) (by omega) _ ?_
      by_cases e : j = i
      · subst e; exact Or.inl (decide_eq_true h3)
      · exact Or.inr ⟨j, by omega, h2, hD, h3⟩
    · rw [if_pos rfl]
      exact ih (i + 1) K (by omega) (by omega) (by omega) _ (Or.inl rfl)
theorem tight_j0 (a2 : Int) (b0 : 0 ≤ a2) (b1 : a2 ≤ 255) (h60 : l.length ≤ 60) (h61 : m.length ≤ 60) (K : Nat) (hK : 30402 ≤ K) (hK2 : K < 30500) : standbylaw55_CurveTight.j0 K a2 false l s m t = some true := by
  obtain ⟨K, rfl⟩ : ∃ K', K = K' + 1 := ⟨K - 1, by omega⟩
  obtain ⟨K, rfl⟩ : ∃ K', K = K' + 1 := ⟨K - 1, by omega⟩
  obtain ⟨n, rfl⟩ : ∃ n : Nat, a2 = (n : Int) := ⟨a2.toNat, by omega⟩
  simp only [standbylaw55_CurveTight.j0]
  rw [if_neg (by simp), w64 (n : Int) (by omega) (by omega)]
  rcases delay_val hl hm (K + 1) (by omega) with h | ⟨hst, hz, h⟩
  · rw [h, Option.bind_some, if_neg (by show ¬ (21 : Int) = 0; decide)]
    simp only [standbylaw55_CurveTight.j1]
    rw [if_neg (by simp), tight_j3 hl hm n (by omega) h60 h61 K (by omega) (by omega)]
  · have h0 := (grF_bd (dlyV l s m t) (max l.length m.length)).1
    have h1 := delay_sup hl hm hst hz n
    have h2 := delay_tight hl hm hst hz
    rw [h, Option.bind_some, if_pos rfl]
    obtain ⟨D, hD⟩ : ∃ D, grF (dlyV l s m t) (max l.length m.length) = D := ⟨_, rfl⟩
    rw [hD] at h0 h1 h2 ⊢
    show standbylaw55_CurveTight.j1 (K + 1) (n : Int) D (decide (D < 536870912)) l s m t = some true
    simp only [standbylaw55_CurveTight.j1]
    by_cases hlt : D < 536870912
    · rw [if_pos (decide_eq_true hlt), if_neg (by omega), w64 ((n : Int) + D) (by omega) (by omega), tAt_f hm ((n : Int) + D) (by omega) (by omega) K (by omega), tAt_f hl (n : Int) (by omega) (by omega) K (by omega), Option.bind_some, Option.bind_some, if_neg (by omega)]
      refine tight_l0 hl hm n (by omega) h60 h61 D h0 hlt 70 0 K (by omega) (by omega) (by omega) _ ?_
      rcases h2 with e | ⟨i, hi, hp, e⟩
      · exact Or.inl (by simpa using e)
      · by_cases hD1 : 1 ≤ D
        · exact Or.inr ⟨i, by omega, by omega, hD1, e⟩
        · exact Or.inl (by have : D = 0 := by omega
                           simpa using this)
    · rw [if_neg (by rw [decide_eq_false hlt]; simp), tight_j3 hl hm n (by omega) h60 h61 K (by omega) (by omega)]
end
theorem tight_t (K : Nat) (hK : 30001 ≤ K) (hK2 : K < 30500) (l : List Int) (s : Int) (m : List Int) (t : Int) (a2 : Int) : standbylaw55_CurveTight.j0 K a2 true l s m t = some true := by
  obtain ⟨K, rfl⟩ : ∃ K', K = K' + 1 := ⟨K - 1, by omega⟩
  simp only [standbylaw55_CurveTight.j0]
  rw [if_pos trivial, awake_rg K (by omega) (by omega)]; rfl
theorem tight_f (l : List Int) (s : Int) (m : List Int) (t : Int) (a2 : Int) (b0 : 0 ≤ a2) (b1 : a2 ≤ 255) : standbylaw55_CurveTight.f 30450 l s m t a2 = some true := by
  unfold standbylaw55_CurveTight.f standbyref55_Few.f
  rw [tight_t 30450 (by decide) (by decide), check_f l s 30450 (by decide), check_f m t 30450 (by decide), Option.bind_some, Option.bind_some, Option.bind_some, Option.bind_some]
  by_cases f1 : (l.length : Int) ≤ 60
  · rw [if_pos (by simpa using f1)]
    by_cases f2 : (m.length : Int) ≤ 60
    · rw [if_pos (by simpa using f2)]
      by_cases h1 : chkC l s = 0
      · rw [if_pos h1]
        by_cases h2 : chkC m t = 0
        · rw [h2]
          exact tight_j0 (chk_zero h1) (chk_zero h2) a2 b0 b1 (by omega) (by omega) 30450 (by decide) (by decide)
        · have e : (chkC m t != 0) = true := by simpa using h2
          rw [e]
          exact tight_t 30450 (by decide) (by decide) l s m t a2
      · rw [if_neg h1]
    · rw [if_neg (by simpa using f2)]
  · rw [if_neg (by simpa using f1)]
theorem CurveTight_run (A0 : Option Addr) (c0 : Nat) (l0 : List Int) (s0 : Int) (A1 : Option Addr) (c1 : Nat) (l1 : List Int) (s1 : Int) (a2 : Int) (w : World) (hr0 : Kd.C (Kd.int .i64) w A0 l0.length l0) (hc0 : l0.length ≤ c0) (hr1 : Kd.C (Kd.int .i64) w A1 l1.length l1) (hc1 : l1.length ≤ c1) (hb : 0 ≤ a2 ∧ a2 ≤ 255) :
    Calls Try.prog 8 #[.agg #[.slice A0 l0.length c0, .int .i64 s0], .agg #[.slice A1 l1.length c1, .int .i64 s1], .int .u8 a2] w fun e w' => e = .returned (.bool true) ∧ Below w.heap.size w w' :=
  standbylaw55_CurveTight.calls 30450 A0 c0 l0 s0 A1 c1 l1 s1 a2 true w hr0 hc0 hr1 hc1 (tight_f l0 s0 l1 s1 a2 hb.1 hb.2)
end Go.Proofs.Ytanlonngekgibaa.Pr

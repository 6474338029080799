/- Both minima and both sums answer alike. -/
import Derived.Test.YtanlonngekgibaaGCurV
import Derived.Test.YtanlonngekgibaaGMin
import Derived.Test.YtanlonngekgibaaF31
import Derived.Test.YtanlonngekgibaaF33
namespace Go.Proofs.Ytanlonngekgibaa.Pr
open Go.RowKit Go.Proofs.YtanlonngekgibaaW.PrintWords Go.Proofs.YtanlonngekgibaaW.PrintLast Go.Proofs.YtanlonngekgibaaW.PrintMore
set_option linter.unusedVariables false
set_option linter.unusedSimpArgs false
theorem mxl (a b : Nat) : mx (a : Int) (b : Int) = ((max a b : Nat) : Int) := by unfold mx; split <;> omega
def minV (l : List Int) (s : Int) (m : List Int) (t : Int) (x : Int) : Int := mn (cv l s x) (cv m t x)
def addV (l : List Int) (s : Int) (m : List Int) (t : Int) (x : Int) : Int := wrap64 (cv l s x + cv m t x)
def minR (l : List Int) (s : Int) (m : List Int) (t c : Int) : List Int × Int × Int :=
  if ((max l.length m.length : Nat) : Int) + c > 4096 then ([], 0, 5) else finV (vals (minV l s m t) (((max l.length m.length : Nat) : Int) + c).toNat) (mn s t)
section
variable {l : List Int} {s : Int} {m : List Int} {t : Int} (hl : CurOk l s) (hm : CurOk m t)
include hl hm
theorem minF_f (i : Nat) (hi : i < 4097) : minF l s m t (i : Int) = some (minV l s m t (i : Int)) := by
  unfold minF minV
  rw [at_f hl _ (by omega) (by omega), at_f hm _ (by omega) (by omega)]; rfl
theorem addF_f (i : Nat) (hi : i < 4097) : addF l s m t (i : Int) = some (addV l s m t (i : Int)) := by
  unfold addF addV
  rw [at_f hl _ (by omega) (by omega), at_f hm _ (by omega) (by omega)]; rfl
theorem rmin_l0 (c : Int) (N : Nat) (hN : (N : Int) = ((max l.length m.length : Nat) : Int) + c) (hN2 : N ≤ 4096) : ∀ d i k : Nat, i + d = N → d + 5000 ≤ k → standbyref55_Min.l0 k ((max l.length m.length : Nat) : Int) c (vals (minV l s m t) i) (i : Int) l s m t = some (finV (vals (minV l s m t) N) (mn s t)) := by
  intro d
  induction d with
  | zero =>
    intro i k hi hk
    obtain ⟨k, rfl⟩ : ∃ k', k = k' + 1 := ⟨k - 1, by omega⟩
    obtain rfl : i = N := by omega
    simp only [standbyref55_Min.l0]
    rw [w64 (((max l.length m.length : Nat) : Int) + c) (by omega) (by omega), if_neg (by omega), finish_f _ _ k (by omega)]
    rfl
  | succ d ih =>
    intro i k hi hk
    obtain ⟨k, rfl⟩ : ∃ k', k = k' + 1 := ⟨k - 1, by omega⟩
    have e3 : wrap64 ((i : Int) + 1) = ((i + 1 : Nat) : Int) := by rw [w64 _ (by omega) (by omega)]; omega
    simp only [standbyref55_Min.l0, e3]
    rw [w64 (((max l.length m.length : Nat) : Int) + c) (by omega) (by omega), if_pos (by omega), value_f hl _ (by omega) (by omega), value_f hm _ (by omega) (by omega), Option.bind_some, Option.bind_some, if_pos (by rw [vals_len]; omega)]
    have h := ih (i + 1) k (by omega) (by omega)
    rw [vals_succ] at h
    exact h
theorem radd_l0 : ∀ d i k : Nat, i + d = max l.length m.length → d + 5000 ≤ k → standbyref55_Add.l0 k (vals (addV l s m t) i) (i : Int) l s m t = some (finV (vals (addV l s m t) (max l.length m.length)) (wrap64 (s + t))) := by
  have g2 := hl.h2; have g4 := hm.h2
  intro d
  induction d with
  | zero =>
    intro i k hi hk
    obtain ⟨k, rfl⟩ : ∃ k', k = k' + 1 := ⟨k - 1, by omega⟩
    simp only [standbyref55_Add.l0]
    rw [mxl, if_neg (by omega), finish_f _ _ k (by omega), show i = max l.length m.length from by omega]
    rfl
  | succ d ih =>
    intro i k hi hk
    obtain ⟨k, rfl⟩ : ∃ k', k = k' + 1 := ⟨k - 1, by omega⟩
    have e3 : wrap64 ((i : Int) + 1) = ((i + 1 : Nat) : Int) := by rw [w64 _ (by omega) (by omega)]; omega
    simp only [standbyref55_Add.l0, e3]
    rw [mxl, if_pos (by omega), value_f hl _ (by omega) (by omega), value_f hm _ (by omega) (by omega), Option.bind_some, Option.bind_some, if_pos (by rw [vals_len]; omega)]
    have h := ih (i + 1) k (by omega) (by omega)
    rw [vals_succ] at h
    exact h
end
theorem add_alike (l : List Int) (s : Int) (m : List Int) (t : Int) (k : Nat) (hk : 20000 ≤ k) : ∃ r, r.1.length ≤ 4096 ∧ curve_Add.f k l s m t = some r ∧ standbyref55_Add.f k l s m t = some r := by
  unfold curve_Add.f standbyref55_Add.f
  rw [check_f l s k (by omega), check_f m t k (by omega), rpair_f l s m t k (by omega)]
  simp only [Option.bind_some]
  by_cases h1 : chkC l s = 0
  · rw [if_pos h1, if_pos h1]
    by_cases h2 : chkC m t = 0
    · rw [if_pos h2, if_pos h2]
      have hl := chk_zero h1
      have hm := chk_zero h2
      have g2 := hl.h2; have g4 := hm.h2
      rw [mxl, made_f _ (addV l s m t) (max l.length m.length) (wrap64 (s + t)) (by omega) (fun i hi => addF_f hl hm i (by omega)) k (by omega)]
      exact ⟨_, finV_len _ _, rfl, radd_l0 hl hm (max l.length m.length) 0 k (by omega) (by omega)⟩
    · rw [if_neg h2, if_neg h2]
      exact ⟨_, by simp, rfl, rfl⟩
  · rw [if_neg h1, if_neg h1, if_neg h1]
    exact ⟨_, by simp, rfl, rfl⟩
theorem min_alike (l : List Int) (s : Int) (m : List Int) (t : Int) (k : Nat) (hk : 20000 ≤ k) : ∃ r, r.1.length ≤ 4096 ∧ curve_Min.f k l s m t = some r ∧ standbyref55_Min.f k l s m t = some r := by
  unfold curve_Min.f standbyref55_Min.f
  rw [check_f l s k (by omega), check_f m t k (by omega), rpair_f l s m t k (by omega)]
  simp only [Option.bind_some]
  by_cases h1 : chkC l s = 0
  · rw [if_pos h1, if_pos h1]
    by_cases h2 : chkC m t = 0
    · rw [if_pos h2, if_pos h2]
      have hl := chk_zero h1
      have hm := chk_zero h2
      have g1 := hl.h1; have g2 := hl.h2; have g3 := hm.h1; have g4 := hm.h2
      have b1 := cv_bd hl (((max l.length m.length : Nat) : Int) - 1) (by omega) (by omega)
      have b2 := cv_bd hm (((max l.length m.length : Nat) : Int) - 1) (by omega) (by omega)
      obtain ⟨c, hc, c0, c1⟩ := crossing_f (cv l s (((max l.length m.length : Nat) : Int) - 1)) s (cv m t (((max l.length m.length : Nat) : Int) - 1)) t (by have := b1.2.2 (by omega); omega) (by have := b2.2.2 (by omega); omega) hl.s hm.s
      rw [mxl, w64 (((max l.length m.length : Nat) : Int) - 1) (by omega) (by omega), at_f hl _ (by omega) (by omega), at_f hm _ (by omega) (by omega), value_f hl _ (by omega) (by omega), value_f hm _ (by omega) (by omega)]
      simp only [Option.bind_some]
      rw [crossing_alike, hc, Option.bind_some, Option.bind_some, w64 (((max l.length m.length : Nat) : Int) + c) (by omega) (by omega)]
      refine ⟨minR l s m t c, ?_, ?_, ?_⟩
      · unfold minR
        split
        · simp
        · exact finV_len _ _
      · unfold minR
        by_cases hN : ((max l.length m.length : Nat) : Int) + c > 4096
        · rw [if_pos hN]; unfold curve_made.f; rw [if_pos hN]
        · rw [if_neg hN]
          obtain ⟨N, hN2⟩ : ∃ N : Nat, (N : Int) = ((max l.length m.length : Nat) : Int) + c := ⟨(((max l.length m.length : Nat) : Int) + c).toNat, by omega⟩
          rw [← hN2, Int.toNat_natCast]
          exact made_f _ (minV l s m t) N (mn s t) (by omega) (fun i hi => minF_f hl hm i (by omega)) k (by omega)
      · unfold minR
        by_cases hN : ((max l.length m.length : Nat) : Int) + c > 4096
        · rw [if_pos hN, if_pos hN]
        · rw [if_neg hN, if_neg hN]
          obtain ⟨N, hN2⟩ : ∃ N : Nat, (N : Int) = ((max l.length m.length : Nat) : Int) + c := ⟨(((max l.length m.length : Nat) : Int) + c).toNat, by omega⟩
          have h := rmin_l0 hl hm c N hN2 (by omega) N 0 k (by omega) (by omega)
          rw [← hN2, Int.toNat_natCast]
          exact h
    · rw [if_neg h2, if_neg h2]
      exact ⟨_, by simp, rfl, rfl⟩
  · rw [if_neg h1, if_neg h1, if_neg h1]
    exact ⟨_, by simp, rfl, rfl⟩
end Go.Proofs.Ytanlonngekgibaa.Pr

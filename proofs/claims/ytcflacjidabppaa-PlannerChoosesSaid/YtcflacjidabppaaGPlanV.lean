/- The reference's plan; equal plans. -/
import Derived.Test.YtcflacjidabppaaGPlanW
import Derived.Test.YtcflacjidabppaaGPureP
import Derived.Test.YtcflacjidabppaaF17
namespace Go.Proofs.Ytcflacjidabppaa.Pr
open Go.RowKit Go.Proofs.YtcflacjidabppaaW.PrintWords Go.Proofs.YtcflacjidabppaaW.PrintLast Go.Proofs.YtcflacjidabppaaW.PrintMore
set_option linter.unusedVariables false
set_option linter.unusedSimpArgs false
theorem refPlan_f (W C : List Int) (p lat app : Int) (k : Nat) (hk : 40000 ≤ k) (hW0 : W.length ≤ 4096) (hC0 : C.length ≤ 4096) : standbyref56_Plan.f k W C p lat app = some (planV W C p lat app) := by
  unfold standbyref56_Plan.f planV
  rw [refCheck_f W C p lat app k (by omega), Option.bind_some]
  by_cases h : chkV W C p lat app = 0
  · rw [if_pos h, if_pos h]
    obtain ⟨hT, h1, h2, h3⟩ := chk_zero h
    obtain ⟨hn, hni⟩ := ckN_le hT
    rw [if_neg (by omega)]
    have hcy : wrap64 (Int.tdiv (wrap64 (wrap64 ((W.length : Int) + p) - 1)) p) = ((ckN W.length p.toNat : Nat) : Int) := by
      rw [w64 ((W.length : Int) + p) (by omega) (by omega), w64 ((W.length : Int) + p - 1) (by omega) (by omega), Int.tdiv_eq_ediv_of_nonneg (by omega)]
      have e : ((W.length : Int) + p - 1) / p = ((ckN W.length p.toNat : Nat) : Int) := by
        unfold ckN
        obtain ⟨P, hP⟩ : ∃ P : Nat, p = (P : Int) := ⟨p.toNat, by omega⟩
        subst hP
        rw [Int.toNat_natCast, Int.natCast_ediv]
        congr 1
        omega
      rw [e]
      exact w64 _ (by omega) (by omega)
    rw [hcy]
    have h := ref_l0 W C p.toNat lat app hT (ckN W.length p.toNat) hn hni (ckN W.length p.toNat) 0 k 0 [] [] [] [] (by omega) (by omega) (PInv.start _ _ _)
    rw [show ((p.toNat : Nat) : Int) = p from by omega, show ((0 * p.toNat : Nat) : Int) = 0 from by simp] at h
    exact h
  · rw [if_neg h, if_neg h]
theorem SameInts_l0 (l m : List Int) (hlm : l.length = m.length) (hn : l.length ≤ 1099511627776) : ∀ d k i : Nat, i + d = l.length → d + 1 ≤ k → l.take i = m.take i → standbyref56_SameInts.l0 k l m (i : Int) = some (decide (l = m)) := by
  intro d
  induction d with
  | zero =>
    intro k i hi hk ht
    obtain ⟨k, rfl⟩ : ∃ k', k = k' + 1 := ⟨k - 1, by omega⟩
    simp only [standbyref56_SameInts.l0]
    rw [if_neg (by omega)]
    rw [List.take_of_length_le (by omega), List.take_of_length_le (by omega)] at ht
    rw [decide_eq_true ht]
  | succ d ih =>
    intro k i hi hk ht
    obtain ⟨k, rfl⟩ : ∃ k', k = k' + 1 := ⟨k - 1, by omega⟩
    simp only [standbyref56_SameInts.l0]
    rw [if_pos (by omega), if_pos (by omega), if_pos (by omega)]
    by_cases he : rd l (i : Int) = rd m (i : Int)
    · rw [if_pos he, w64 _ (by omega) (by omega), show ((i : Int) + 1) = ((i + 1 : Nat) : Int) from by omega]
      exact ih k (i + 1) (by omega) (by omega) (by rw [take_rd l i (by omega), take_rd m i (by omega), ht, he])
    · rw [if_neg he, decide_eq_false (fun e => he (by rw [e]))]
theorem SameInts_f (l m : List Int) (hn : l.length ≤ 1099511627776) (k : Nat) (hk : l.length + 1 ≤ k) : standbyref56_SameInts.f k l m = some (decide (l = m)) := by
  unfold standbyref56_SameInts.f
  by_cases h : (l.length : Int) = (m.length : Int)
  · rw [if_pos h]
    have := SameInts_l0 l m (by omega) hn l.length k 0 (by omega) hk rfl
    simpa using this
  · rw [if_neg h, decide_eq_false (fun e => h (by rw [e]))]
theorem Same_f (a b c d : List Int) (x : Int) (k : Nat) (h : a.length ≤ 4096 ∧ b.length ≤ 4096 ∧ c.length ≤ 4096 ∧ d.length ≤ 4096) (hk : 5000 ≤ k) : standbyref56_Same.f k a b c d x a b c d x = some true := by
  unfold standbyref56_Same.f
  rw [SameInts_f a a (by omega) k (by omega), SameInts_f b b (by omega) k (by omega), SameInts_f c c (by omega) k (by omega), SameInts_f d d (by omega) k (by omega)]
  simp
end Go.Proofs.Ytcflacjidabppaa.Pr

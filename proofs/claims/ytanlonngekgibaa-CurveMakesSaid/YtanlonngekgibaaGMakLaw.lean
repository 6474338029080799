/- The law CurveMakes. -/
import Derived.Test.YtanlonngekgibaaGMak
import Derived.Test.YtanlonngekgibaaGAwakeR
import Derived.Test.YtanlonngekgibaaF3
namespace Go.Proofs.Ytanlonngekgibaa.Pr
open Go.RowKit Go.Proofs.YtanlonngekgibaaW.PrintWords Go.Proofs.YtanlonngekgibaaW.PrintLast Go.Proofs.YtanlonngekgibaaW.PrintMore
set_option linter.unusedVariables false
set_option linter.unusedSimpArgs false
theorem at_alike (l : List Int) (s x : Int) (k : Nat) (hk : 9000 ≤ k) : ∃ r, curve_At.f k l s x = some r ∧ standbyref55_At.f k l s x = some r := by
  unfold curve_At.f standbyref55_At.f
  rw [check_f l s k (by omega), rcheck_f l s k hk, Option.bind_some, Option.bind_some]
  by_cases h : chkC l s = 0
  · rw [if_pos h, if_pos h]
    by_cases h2 : x < 0
    · rw [if_pos h2, if_pos h2]; exact ⟨_, rfl, rfl⟩
    · have hm : 0 ≤ mn x 1073741824 ∧ mn x 1073741824 ≤ 1073741824 := by unfold mn; split <;> omega
      rw [if_neg h2, if_neg h2, at_f (chk_zero h) _ hm.1 hm.2, value_f (chk_zero h) _ hm.1 hm.2]; exact ⟨_, rfl, rfl⟩
  · rw [if_neg h, if_neg h]; exact ⟨_, rfl, rfl⟩
theorem makes_t (K : Nat) (hK : 30001 ≤ K) (hK2 : K < 30500) (q : List Int) (l : List Int) (s a b : Int) : standbylaw55_CurveMakes.j0 K q true l s a b = some true := by
  obtain ⟨K, rfl⟩ : ∃ K', K = K' + 1 := ⟨K - 1, by omega⟩
  simp only [standbylaw55_CurveMakes.j0]
  rw [if_pos trivial, awake_rg K (by omega) (by omega)]; rfl
theorem makes_f (l : List Int) (s : Int) (q : List Int) (a b : Int) : standbylaw55_CurveMakes.f 30450 l s q a b = some true := by
  unfold standbylaw55_CurveMakes.f
  rw [makes_t 30450 (by decide) (by decide)]
  by_cases h1 : (l.length : Int) > 100
  · rw [if_pos h1]
  rw [if_neg h1]
  by_cases h2 : (q.length : Int) > 40
  · rw [decide_eq_true h2, makes_t 30450 (by decide) (by decide)]
  rw [decide_eq_false h2]
  show standbylaw55_CurveMakes.j0 (30449 + 1) q false l s a b = some true
  simp only [standbylaw55_CurveMakes.j0]
  rw [if_neg (by simp)]
  unfold curve_Arrival.f curve_Service.f standbyref55_Arrival.f standbyref55_Service.f
  rw [rwin_f q a (by omega) true 30449 (by decide), rwin_f q a (by omega) false 30449 (by decide)]
  obtain ⟨r, hr1, hr2⟩ := at_alike l s b 30449 (by decide)
  have g1 := winF_len mx q a (by omega); have g2 := winF_len mn q a (by omega)
  rw [show betG true = mx from rfl, show betG false = mn from rfl]
  simp only [Option.bind_some]
  rw [check_f l s 30449 (by decide), rcheck_f l s 30449 (by decide), Option.bind_some, Option.bind_some, if_pos rfl, hr1, hr2, Option.bind_some, Option.bind_some, if_pos rfl, same_f _ _ g1 30449 (by decide), same_f _ _ g2 30449 (by decide), awake_rg 30449 (by decide) (by decide)]
  simp
theorem CurveMakes_run (A0 : Option Addr) (c0 : Nat) (l0 : List Int) (s0 : Int) (A1 : Option Addr) (c1 : Nat) (l1 : List Int) (a b : Int) (w : World) (hr0 : Kd.C (Kd.int .i64) w A0 l0.length l0) (hc0 : l0.length ≤ c0) (hr1 : Kd.C (Kd.int .i64) w A1 l1.length l1) (hc1 : l1.length ≤ c1) :
    Calls Try.prog 3 #[.agg #[.slice A0 l0.length c0, .int .i64 s0], .slice A1 l1.length c1, .agg #[.int .i64 a, .int .i64 b]] w fun e w' => e = .returned (.bool true) ∧ Below w.heap.size w w' :=
  standbylaw55_CurveMakes.calls 30450 A0 c0 l0 s0 A1 c1 l1 a b true w hr0 hc0 hr1 hc1 (makes_f l0 s0 l1 a b)
end Go.Proofs.Ytanlonngekgibaa.Pr

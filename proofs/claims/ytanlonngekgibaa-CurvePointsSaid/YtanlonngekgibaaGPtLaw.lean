/- The law CurvePoints. -/
import Derived.Test.YtanlonngekgibaaGPt
import Derived.Test.YtanlonngekgibaaGAwakeR
import Derived.Test.YtanlonngekgibaaF10
namespace Go.Proofs.Ytanlonngekgibaa.Pr
open Go.RowKit Go.Proofs.YtanlonngekgibaaW.PrintWords Go.Proofs.YtanlonngekgibaaW.PrintLast Go.Proofs.YtanlonngekgibaaW.PrintMore
set_option linter.unusedVariables false
set_option linter.unusedSimpArgs false
theorem mn_self (a : Int) : mn a a = a := by unfold mn; split <;> omega
section
variable {l : List Int} {s : Int} {m : List Int} {t : Int} (hl : CurOk l s) (hm : CurOk m t)
include hl hm
def pw (n : Nat) (f g : Int → Int) (i : Nat) : Int := lst (n + 1) (n : Int) f g (i - 1)
theorem points_l0 (n : Nat) (hn : n ≤ 255) (r : List Int) (rs : Int) (hr : CurOk r rs) (hv : cv r rs (n : Int) = cvl l s m t (n : Int)) : ∀ d i K : Nat, i + d = n + 1 → 30000 + d ≤ K → K < 30500 → standbylaw55_CurvePoints.l0 K (n : Int) (pw n (cv l s) (cv m t) i) ((n + 1 : Nat) : Int) (i : Int) l s m t r rs = some true := by
  intro d
  induction d with
  | zero =>
    intro i K hi hK hK2
    obtain ⟨K, rfl⟩ : ∃ K', K = K' + 1 := ⟨K - 1, by omega⟩
    obtain rfl : i = n + 1 := by omega
    simp only [standbylaw55_CurvePoints.l0]
    rw [if_neg (by omega), check_f r rs K (by omega), ok_chk hr, Option.bind_some, if_pos rfl, At_f hr (ok_chk hr) (n : Int) (by omega) (by omega) K (by omega), Option.bind_some, hv, if_pos (show cvl l s m t (n : Int) = pw n (cv l s) (cv m t) (n + 1) from rfl), awake_rg K (by omega) (by omega)]
    rfl
  | succ d ih =>
    intro i K hi hK hK2
    obtain ⟨K, rfl⟩ : ∃ K', K = K' + 1 := ⟨K - 1, by omega⟩
    have e3 : wrap64 ((i : Int) + 1) = ((i + 1 : Nat) : Int) := by rw [w64 _ (by omega) (by omega)]; omega
    have e4 : wrap64 ((n : Int) - (i : Int)) = (n : Int) - (i : Int) := w64 _ (by omega) (by omega)
    simp only [standbylaw55_CurvePoints.l0, e3, e4]
    rw [if_pos (by omega), At_f hl (ok_chk hl) (i : Int) (by omega) (by omega) K (by omega), At_f hm (ok_chk hm) _ (by omega) (by omega) K (by omega), Option.bind_some, Option.bind_some]
    have h := ih (i + 1) K (by omega) (by omega) (by omega)
    have e : mn (pw n (cv l s) (cv m t) i) (wrap64 (cv l s (i : Int) + cv m t ((n : Int) - (i : Int)))) = pw n (cv l s) (cv m t) (i + 1) := by
      unfold pw
      cases i with
      | zero =>
        have e0 : (n : Int) - ((0 : Nat) : Int) = (n : Int) := by omega
        rw [e0]
        exact mn_self _
      | succ i =>
        rw [show i + 1 + 1 - 1 = i + 1 from rfl, show i + 1 - 1 = i from rfl, lst_succ, show ((i + 1 : Nat) : Int) = (i : Int) + 1 from by omega]
    rw [e]
    exact h
theorem points_j2 (n : Nat) (hn : n ≤ 255) (K : Nat) (hK : 30400 ≤ K) (hK2 : K < 30500) : standbylaw55_CurvePoints.j2 K (n : Int) false l s m t = some true := by
  obtain ⟨K, rfl⟩ : ∃ K', K = K' + 1 := ⟨K - 1, by omega⟩
  obtain ⟨r, hr, h1, h2, hG⟩ := conv_val hl hm K (by omega)
  simp only [standbylaw55_CurvePoints.j2]
  rw [if_neg (by simp), h1, h2, Option.bind_some, Option.bind_some, if_pos rfl, same_f r.1 r.2.1 hr K (by omega), Option.bind_some, if_pos rfl]
  by_cases h0 : r.2.2 = 0
  · obtain ⟨hC, hv⟩ := hG h0
    rw [if_pos h0, At_f hl (ok_chk hl) 0 (by omega) (by omega) K (by omega), At_f hm (ok_chk hm) (n : Int) (by omega) (by omega) K (by omega), Option.bind_some, Option.bind_some, w64 ((n : Int) + 1) (by omega) (by omega)]
    exact points_l0 hl hm n hn r.1 r.2.1 hC (hv n hn) (n + 1) 0 K (by omega) (by omega) (by omega)
  · rw [if_neg h0, awake_rg K (by omega) (by omega)]; rfl
theorem points_j1 (n : Nat) (hn : n ≤ 255) (K : Nat) (hK : 30401 ≤ K) (hK2 : K < 30500) : standbylaw55_CurvePoints.j1 K (n : Int) (cv l s (n : Int)) (cv m t (n : Int)) false l s m t = some true := by
  obtain ⟨K, rfl⟩ : ∃ K', K = K' + 1 := ⟨K - 1, by omega⟩
  obtain ⟨r, h1, hG⟩ := add_val hl hm K (by omega)
  simp only [standbylaw55_CurvePoints.j1]
  rw [if_neg (by simp), h1, Option.bind_some]
  by_cases h0 : r.2.2 = 0
  · obtain ⟨hC, hv⟩ := hG h0
    have p := cv_bd hl (n : Int) (by omega) (by omega); have q := cv_bd hm (n : Int) (by omega) (by omega)
    have e := hv n hn
    rw [if_pos h0, check_f _ _ K (by omega), ok_chk hC, Option.bind_some, if_pos rfl, At_f hC (ok_chk hC) (n : Int) (by omega) (by omega) K (by omega), Option.bind_some, w64 (cv l s (n : Int) + cv m t (n : Int)) (by omega) (by omega), e]
    have e2 : ((cv l s (n : Int) + cv m t (n : Int)) != (cv l s (n : Int) + cv m t (n : Int))) = false := by simp
    show standbylaw55_CurvePoints.j2 K (n : Int) ((cv l s (n : Int) + cv m t (n : Int)) != (cv l s (n : Int) + cv m t (n : Int))) l s m t = some true
    rw [e2]
    exact points_j2 hl hm n hn K (by omega) (by omega)
  · rw [if_neg h0]
    exact points_j2 hl hm n hn K (by omega) (by omega)
theorem points_j0 (a2 : Int) (b0 : 0 ≤ a2) (b1 : a2 ≤ 255) (K : Nat) (hK : 30402 ≤ K) (hK2 : K < 30500) : standbylaw55_CurvePoints.j0 K a2 false l s m t = some true := by
  obtain ⟨K, rfl⟩ : ∃ K', K = K' + 1 := ⟨K - 1, by omega⟩
  obtain ⟨n, rfl⟩ : ∃ n : Nat, a2 = (n : Int) := ⟨a2.toNat, by omega⟩
  obtain ⟨r, h1, hG⟩ := min_val hl hm K (by omega)
  simp only [standbylaw55_CurvePoints.j0]
  rw [if_neg (by simp), w64 (n : Int) (by omega) (by omega), At_f hl (ok_chk hl) (n : Int) (by omega) (by omega) K (by omega), At_f hm (ok_chk hm) (n : Int) (by omega) (by omega) K (by omega), Option.bind_some, Option.bind_some, h1, Option.bind_some]
  by_cases h0 : r.2.2 = 0
  · obtain ⟨hC, hv⟩ := hG h0
    have e := hv n (by omega)
    rw [if_pos h0, check_f _ _ K (by omega), ok_chk hC, Option.bind_some, if_pos rfl, At_f hC (ok_chk hC) (n : Int) (by omega) (by omega) K (by omega), Option.bind_some, e]
    have e2 : ((mn (cv l s (n : Int)) (cv m t (n : Int))) != (mn (cv l s (n : Int)) (cv m t (n : Int)))) = false := by simp
    show standbylaw55_CurvePoints.j1 K (n : Int) _ _ ((mn (cv l s (n : Int)) (cv m t (n : Int))) != (mn (cv l s (n : Int)) (cv m t (n : Int)))) l s m t = some true
    rw [e2]
    exact points_j1 hl hm n (by omega) K (by omega) (by omega)
  · rw [if_neg h0]
    exact points_j1 hl hm n (by omega) K (by omega) (by omega)
end
theorem points_t (K : Nat) (hK : 30001 ≤ K) (hK2 : K < 30500) (l : List Int) (s : Int) (m : List Int) (t : Int) (a2 : Int) : standbylaw55_CurvePoints.j0 K a2 true l s m t = some true := by
  obtain ⟨K, rfl⟩ : ∃ K', K = K' + 1 := ⟨K - 1, by omega⟩
  simp only [standbylaw55_CurvePoints.j0]
  rw [if_pos trivial, awake_rg K (by omega) (by omega)]; rfl
theorem points_f (l : List Int) (s : Int) (m : List Int) (t : Int) (a2 : Int) (b0 : 0 ≤ a2) (b1 : a2 ≤ 255) : standbylaw55_CurvePoints.f 30450 l s m t a2 = some true := by
  unfold standbylaw55_CurvePoints.f
  rw [points_t 30450 (by decide) (by decide)]
  split
  · rfl
  split
  · rfl
  rw [check_f l s 30450 (by decide), check_f m t 30450 (by decide), Option.bind_some]
  by_cases h1 : chkC l s = 0
  · rw [if_pos h1, Option.bind_some]
    by_cases h2 : chkC m t = 0
    · rw [h2]
      exact points_j0 (chk_zero h1) (chk_zero h2) a2 b0 b1 30450 (by decide) (by decide)
    · have e : (chkC m t != 0) = true := by simpa using h2
      rw [e]
      exact points_t 30450 (by decide) (by decide) l s m t a2
  · rw [if_neg h1]
theorem CurvePoints_run (A0 : Option Addr) (c0 : Nat) (l0 : List Int) (s0 : Int) (A1 : Option Addr) (c1 : Nat) (l1 : List Int) (s1 : Int) (a2 : Int) (w : World) (hr0 : Kd.C (Kd.int .i64) w A0 l0.length l0) (hc0 : l0.length ≤ c0) (hr1 : Kd.C (Kd.int .i64) w A1 l1.length l1) (hc1 : l1.length ≤ c1) (hb : 0 ≤ a2 ∧ a2 ≤ 255) :
    Calls Try.prog 10 #[.agg #[.slice A0 l0.length c0, .int .i64 s0], .agg #[.slice A1 l1.length c1, .int .i64 s1], .int .u8 a2] w fun e w' => e = .returned (.bool true) ∧ Below w.heap.size w w' :=
  standbylaw55_CurvePoints.calls 30450 A0 c0 l0 s0 A1 c1 l1 s1 a2 true w hr0 hc0 hr1 hc1 (points_f l0 s0 l1 s1 a2 hb.1 hb.2)
end Go.Proofs.Ytanlonngekgibaa.Pr

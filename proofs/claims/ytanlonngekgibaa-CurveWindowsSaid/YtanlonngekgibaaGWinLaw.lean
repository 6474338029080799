/- The law CurveWindows. -/
import Derived.Test.YtanlonngekgibaaGWinV
import Derived.Test.YtanlonngekgibaaGAwakeR
import Derived.Test.YtanlonngekgibaaF6
namespace Go.Proofs.Ytanlonngekgibaa.Pr
open Go.RowKit Go.Proofs.YtanlonngekgibaaW.PrintWords Go.Proofs.YtanlonngekgibaaW.PrintLast Go.Proofs.YtanlonngekgibaaW.PrintMore
set_option linter.unusedVariables false
set_option linter.unusedSimpArgs false
theorem small_f (l : List Int) (slope : Int) : ∃ b : Bool, standbylaw55_small.f l slope = some b ∧ (b = true → Sml l slope 1000 ∧ l.length ≤ 30) := by
  unfold standbylaw55_small.f cf_small1.f
  by_cases h1 : (l.length : Int) ≤ 30
  · rw [if_pos h1]
    by_cases h2 : slope ≥ 0
    · rw [if_pos h2]
      by_cases h3 : slope ≤ 1000
      · rw [if_pos h3, Option.bind_some]
        refine ⟨_, rfl, fun h => ⟨⟨fun x hx => ?_, h2, h3⟩, by omega⟩⟩
        simp only [Bool.not_eq_true', List.any_eq_false] at h
        have := h x hx
        simp [bigK] at this
        omega
      · rw [if_neg h3]; exact ⟨false, rfl, by simp⟩
    · rw [if_neg h2]; exact ⟨false, rfl, by simp⟩
  · rw [if_neg h1]; exact ⟨false, rfl, by simp⟩
/-- The law's own best of the first j windows. -/
def lw (bet : Int → Int → Int) (l : List Int) (slope : Int) (n : Nat) : Nat → Int
  | 0 => wsum l slope 0 n
  | j + 1 => bet (lw bet l slope n j) (wsum l slope j n)
theorem lw_bw {bet : Int → Int → Int} (hb : Bet bet) (l : List Int) (slope : Int) (n : Nat) : ∀ j : Nat, lw bet l slope n (j + 1) = bw bet l slope n j := by
  intro j
  induction j with
  | zero => simp only [lw, bw]; rw [hb.same]
  | succ j ih => show bet (lw bet l slope n (j + 1)) (wsum l slope (j + 1) n) = bet (bw bet l slope n j) (wsum l slope (j + 1) n); rw [ih]
theorem windows_l0 (l : List Int) (slope : Int) (h : Sml l slope 1000) (hl : l.length ≤ 30) (n : Nat) (hn : n ≤ 100) (r q : List Int) (hr : CurOk r slope) (hq : CurOk q slope) (er : cv r slope (n : Int) = bw mx l slope n l.length) (eq : cv q slope (n : Int) = bw mn l slope n l.length) :
    ∀ d i K : Nat, i + d = l.length + 3 → K = 29999 + d → standbylaw55_CurveWindows.l0 (K + 1) l slope (n : Int) (lw mx l slope n i) (lw mn l slope n i) ((l.length + 3 : Nat) : Int) (i : Int) r slope q slope = some true := by
  intro d
  induction d with
  | zero =>
    intro i K hi hK
    obtain rfl : i = l.length + 3 := by omega
    simp only [standbylaw55_CurveWindows.l0]
    rw [if_neg (by omega), At_f hr (ok_chk hr) (n : Int) (by omega) (by omega) _ (by omega), At_f hq (ok_chk hq) (n : Int) (by omega) (by omega) _ (by omega), Option.bind_some, Option.bind_some, er, eq, show l.length + 3 = (l.length + 2) + 1 from rfl, lw_bw bet_mx, lw_bw bet_mn, bw_end bet_mx, bw_end bet_mn, if_pos rfl, if_pos rfl, awake_rg _ (by omega) (by omega)]
    rfl
  | succ d ih =>
    intro i K hi hK
    obtain ⟨K, rfl⟩ : ∃ K', K = K' + 1 := ⟨K - 1, by omega⟩
    have e3 : wrap64 ((i : Int) + 1) = ((i + 1 : Nat) : Int) := by rw [w64 _ (by omega) (by omega)]; omega
    simp only [standbylaw55_CurveWindows.l0, e3]
    rw [if_pos (by omega), window_f l slope h (by omega) i n (by omega) (by omega) _ (by omega), Option.bind_some]
    exact ih (i + 1) K (by omega) (by omega)
theorem windows_law (l : List Int) (slope a2 : Int) (h0 : 0 ≤ a2) (h1 : a2 ≤ 255) : standbylaw55_CurveWindows.f (29999 + (l.length + 3) + 1) l slope a2 = some true ∨ 30 < l.length := by
  by_cases hlen : l.length ≤ 30
  · left
    unfold standbylaw55_CurveWindows.f
    obtain ⟨b, hb, hb2⟩ := small_f l slope
    rw [hb, Option.bind_some]
    cases b
    · rw [if_neg (by simp), awake_rg _ (by omega) (by omega)]; rfl
    · obtain ⟨hS, hl⟩ := hb2 rfl
      obtain ⟨r, hr, hrC, hrv⟩ := win_small bet_mx hS hl
      obtain ⟨q, hq, hqC, hqv⟩ := win_small bet_mn hS hl
      have e : Int.tmod (wrap64 a2) 70 = ((a2.toNat % 70 : Nat) : Int) := by
        rw [w64 _ (by omega) (by omega), Int.tmod_eq_emod_of_nonneg h0]; omega
      have hn : a2.toNat % 70 ≤ 100 := by omega
      rw [if_pos rfl, e]
      unfold curve_Arrival.f curve_Service.f
      rw [hr, hq]
      simp only [Option.bind_some]
      rw [if_pos trivial, if_pos trivial, check_f _ _ _ (by omega), check_f _ _ _ (by omega), ok_chk hrC, ok_chk hqC, Option.bind_some, Option.bind_some, if_pos rfl, if_pos rfl]
      have w0 := window_f l slope hS (by omega) 0 (a2.toNat % 70) (by omega) (by omega) (29999 + (l.length + 3) + 1) (by omega)
      have w1 : standbyref55_Window.f (29999 + (l.length + 3) + 1) l slope 0 ((a2.toNat % 70 : Nat) : Int) = some (wsum l slope 0 (a2.toNat % 70)) := w0
      rw [w1, Option.bind_some, Option.bind_some, w64 ((l.length : Int) + 3) (by omega) (by omega)]
      exact windows_l0 l slope hS hl (a2.toNat % 70) hn r q hrC hqC (hrv _ hn) (hqv _ hn) (l.length + 3) 0 (29999 + (l.length + 3)) (by omega) rfl
  · right; omega
theorem windows_pure (l : List Int) (slope a2 : Int) (h0 : 0 ≤ a2) (h1 : a2 ≤ 255) : ∃ k, standbylaw55_CurveWindows.f k l slope a2 = some true := by
  rcases windows_law l slope a2 h0 h1 with h | h
  · exact ⟨_, h⟩
  · refine ⟨30000, ?_⟩
    unfold standbylaw55_CurveWindows.f standbylaw55_small.f
    rw [if_neg (by omega), Option.bind_some, if_neg (by simp), awake_rg _ (by omega) (by omega)]; rfl
theorem CurveWindows_run (A0 : Option Addr) (c0 : Nat) (l0 : List Int) (a1 a2 : Int) (w : World) (hr0 : Kd.C (Kd.int .i64) w A0 l0.length l0) (hc0 : l0.length ≤ c0) (hb : 0 ≤ a2 ∧ a2 ≤ 255) :
    Calls Try.prog 6 #[.slice A0 l0.length c0, .int .i64 a1, .int .u8 a2] w fun e w' => e = .returned (.bool true) ∧ Below w.heap.size w w' := by
  obtain ⟨k, hk⟩ := windows_pure l0 a1 a2 hb.1 hb.2
  exact standbylaw55_CurveWindows.calls k A0 c0 l0 a1 a2 true w hr0 hc0 hk
end Go.Proofs.Ytanlonngekgibaa.Pr

/- The law CurveQueues. -/
import Derived.Test.YtanlonngekgibaaGTgt
import Derived.Test.YtanlonngekgibaaGWinV
import Derived.Test.YtanlonngekgibaaGAwakeR
import Derived.Test.YtanlonngekgibaaF7
namespace Go.Proofs.Ytanlonngekgibaa.Pr
open Go.RowKit Go.Proofs.YtanlonngekgibaaW.PrintWords Go.Proofs.YtanlonngekgibaaW.PrintLast Go.Proofs.YtanlonngekgibaaW.PrintMore
set_option linter.unusedVariables false
set_option linter.unusedSimpArgs false
theorem qsmall_f (l : List Int) (slope : Int) : ∃ b : Bool, standbylaw55_small.f l slope = some b ∧ (b = true → Sml l slope 1000 ∧ l.length ≤ 30) := by
  unfold standbylaw55_small.f cf_small1.f
  by_cases h1 : (l.length : Int) ≤ 30
  · rw [if_pos h1]
    by_cases h2 : slope ≥ 0
    · rw [if_pos h2]
      by_cases h3 : slope ≤ 1000
      · rw [if_pos h3, Option.bind_some]
        refine ⟨_, rfl, fun h => ⟨⟨fun x hx => ?_, h2, h3⟩, by omega⟩⟩
        simp only [Bool.not_eq_true', List.any_eq_false] at h
        have := h x hx
        simp [bigK] at this
        omega
      · rw [if_neg h3]; exact ⟨false, rfl, by simp⟩
    · rw [if_neg h2]; exact ⟨false, rfl, by simp⟩
  · rw [if_neg h1]; exact ⟨false, rfl, by simp⟩
theorem qmx_l (a b : Int) : a ≤ mx a b := by unfold mx; split <;> omega
theorem qmx_r (a b : Int) : b ≤ mx a b := by unfold mx; split <;> omega
theorem qmn_l (a b : Int) : mn a b ≤ a := by unfold mn; split <;> omega
theorem qmn_r (a b : Int) : mn a b ≤ b := by unfold mn; split <;> omega
/-- No window has more than the greatest one, or less than the least one. -/
theorem bw_mx_ge (l : List Int) (slope : Int) (k : Nat) : ∀ j a : Nat, a ≤ j → wsum l slope a k ≤ bw mx l slope k j := by
  intro j
  induction j with
  | zero => intro a ha; obtain rfl : a = 0 := by omega
            exact Int.le_refl _
  | succ j ih =>
    intro a ha
    simp only [bw]
    by_cases e : a = j + 1
    · subst e; exact qmx_r _ _
    · exact Int.le_trans (ih a (by omega)) (qmx_l _ _)
theorem bw_mn_le (l : List Int) (slope : Int) (k : Nat) : ∀ j a : Nat, a ≤ j → bw mn l slope k j ≤ wsum l slope a k := by
  intro j
  induction j with
  | zero => intro a ha; obtain rfl : a = 0 := by omega
            exact Int.le_refl _
  | succ j ih =>
    intro a ha
    simp only [bw]
    by_cases e : a = j + 1
    · subst e; exact qmn_r _ _
    · exact Int.le_trans (qmn_l _ _) (ih a (by omega))
theorem win_le (l : List Int) (slope : Int) (a k : Nat) : wsum l slope a k ≤ bw mx l slope k l.length := by
  by_cases h : a ≤ l.length
  · exact bw_mx_ge l slope k l.length a h
  · have := bw_mx_ge l slope k l.length l.length (Nat.le_refl _)
    rw [wsum_far l slope l.length (Nat.le_refl _)] at this
    rw [wsum_far l slope a (by omega)]; exact this
theorem win_ge (l : List Int) (slope : Int) (a k : Nat) : bw mn l slope k l.length ≤ wsum l slope a k := by
  by_cases h : a ≤ l.length
  · exact bw_mn_le l slope k l.length a h
  · have := bw_mn_le l slope k l.length l.length (Nat.le_refl _)
    rw [wsum_far l slope l.length (Nat.le_refl _)] at this
    rw [wsum_far l slope a (by omega)]; exact this
/-- What has left the queue before a tick. -/
def lft (p : List Int) (q : List Int) (sl : Int) : Nat → Int
  | 0 => 0
  | t + 1 => mn (wsum p 0 0 (t + 1)) (lft p q sl t + sq q sl t)
theorem lft_is (p q : List Int) (sl : Int) : ∀ t : Nat, ∃ s : Nat, s ≤ t ∧ lft p q sl t = wsum p 0 0 s + wsum q sl s (t - s) := by
  intro t
  induction t with
  | zero => exact ⟨0, Nat.le_refl _, by simp [lft, wsum]⟩
  | succ t ih =>
    obtain ⟨s, hs, e⟩ := ih
    have ho : mn (wsum p 0 0 (t + 1)) (lft p q sl t + sq q sl t) = wsum p 0 0 (t + 1) ∨ mn (wsum p 0 0 (t + 1)) (lft p q sl t + sq q sl t) = lft p q sl t + sq q sl t := by unfold mn; split <;> simp
    rcases ho with h | h
    · refine ⟨t + 1, Nat.le_refl _, ?_⟩
      show mn _ _ = _
      rw [h, Nat.sub_self]; simp [wsum]
    · refine ⟨s, by omega, ?_⟩
      show mn _ _ = _
      rw [h, e, show t + 1 - s = (t - s) + 1 from by omega]
      simp only [wsum]
      rw [show s + (t - s) = t from by omega]; omega
theorem lft_bd {p q : List Int} {sl : Int} (hp : Sml p 0 1000) (hq : Sml q sl 1000) : ∀ t : Nat, 0 ≤ lft p q sl t ∧ lft p q sl t ≤ (t : Int) * 1000 := by
  intro t
  induction t with
  | zero => simp [lft]
  | succ t ih =>
    have h1 := wsum_bd hp 0 (t + 1); have h2 := sq_bd hq t
    simp only [lft]
    rw [show ((t + 1 : Nat) : Int) = (t : Int) + 1 from by omega] at h1 ⊢
    unfold mn; split <;> omega
section
variable {p q : List Int} {sl : Int} {r u : List Int} (hr : ∀ n : Nat, n ≤ 100 → cv r 0 (n : Int) = bw mx p 0 n p.length) (hu : ∀ n : Nat, n ≤ 100 → cv u sl (n : Int) = bw mn q sl n q.length)
include hr hu
theorem que_back (B : Int) (hB : ∀ n : Nat, cv r 0 (n : Int) - cv u sl (n : Int) ≤ B) (t : Nat) (ht : t ≤ 100) : wsum p 0 0 t - lft p q sl t ≤ B := by
  obtain ⟨s, hs, e⟩ := lft_is p q sl t
  have h1 := wsum_add p 0 0 s (t - s)
  rw [show s + (t - s) = t from by omega, Nat.zero_add] at h1
  have h2 := win_le p 0 s (t - s); have h3 := win_ge q sl s (t - s); have h4 := hB (t - s)
  rw [hr _ (by omega), hu _ (by omega)] at h4
  omega
theorem que_delay (hp : Sml p 0 1000) (hq : Sml q sl 1000) (D : Nat) (hD : ∀ n : Nat, cv r 0 (n : Int) ≤ cv u sl ((n : Int) + (D : Int))) (t : Nat) (ht : t + D ≤ 100) : wsum p 0 0 t ≤ lft p q sl (t + D) := by
  obtain ⟨s, hs, e⟩ := lft_is p q sl (t + D)
  by_cases h : t ≤ s
  · have h1 := wsum_add p 0 0 t (s - t)
    rw [show t + (s - t) = s from by omega, Nat.zero_add] at h1
    have h2 := wsum_bd hp t (s - t); have h3 := wsum_bd hq s (t + D - s)
    omega
  · have h1 := wsum_add p 0 0 s (t - s)
    rw [show s + (t - s) = t from by omega, Nat.zero_add] at h1
    have h2 := win_le p 0 s (t - s); have h3 := win_ge q sl s (t + D - s); have h4 := hD (t - s)
    rw [show ((t - s : Nat) : Int) + (D : Int) = ((t + D - s : Nat) : Int) from by omega, hr _ (by omega), hu _ (by omega)] at h4
    omega
end
/-- The first values of a function. -/
def fst1 (f : Nat → Int) (n : Nat) : List Int := (List.range n).map f
theorem fst1_succ (f : Nat → Int) (n : Nat) : fst1 f (n + 1) = fst1 f n ++ [f n] := by simp [fst1, List.range_succ]
theorem fst1_len (f : Nat → Int) (n : Nat) : (fst1 f n).length = n := by simp [fst1]
theorem fst1_rd (f : Nat → Int) (n i : Nat) (h : i < n) : rd (fst1 f n) (i : Int) = f i := by
  simp [rd, fst1, List.getD_eq_getElem?_getD, List.getElem?_map, List.getElem?_range h]
/-- The greatest delay is no greater than a number that fits. -/
theorem delay_fits {l : List Int} {s : Int} {m : List Int} {t : Int} (hl : CurOk l s) (hm : CurOk m t) (hst : s ≤ t) (hz : t = 0 → rd l ((l.length : Int) - 1) ≤ rd m ((m.length : Int) - 1)) : grF (dlyV l s m t) (max l.length m.length) ≤ 1152921606680588800 := by
  have h1 := hl.h2; have h2 := hm.h2
  obtain ⟨_, _, d⟩ := grF_bd (dlyV l s m t) (max l.length m.length)
  rcases d with e | ⟨i, hi, e⟩
  · omega
  · have b := cv_bd hl (i : Int) (by omega) (by omega)
    obtain ⟨r0, r1, _, _⟩ := rch_spec hm (cv l s (i : Int)) b.1 (by omega) _ (fstI_spec m _) (reached hl hm hst hz i hi)
    rw [e]; unfold dlyV; rw [w64 _ (by omega) (by omega)]; omega
section
variable {p q : List Int} {sl : Int} (hp : Sml p 0 1000) (hq : Sml q sl 1000)
include hp hq
theorem que_l1 (D g B : Int) (hB0 : 0 ≤ B) (hD0 : 0 ≤ D) (hD1 : D ≤ 1152921606680588800) (hB : ∀ t : Nat, t ≤ 100 → wsum p 0 0 t - lft p q sl t ≤ B) (hD : g = 0 → ∀ t : Nat, (t : Int) + D ≤ 100 → wsum p 0 0 t ≤ lft p q sl (t + D.toNat)) :
    ∀ d i K : Nat, i + d = 101 → 30000 + 2 * d ≤ K → K < 30500 → standbylaw55_CurveQueues.l1 K D g B (fst1 (fun t => wsum p 0 0 t) 101) (fst1 (fun t => lft p q sl t) 101) 101 (i : Int) = some true := by
  intro d
  induction d with
  | zero =>
    intro i K hi hK hK2
    obtain ⟨K, rfl⟩ : ∃ K', K = K' + 1 := ⟨K - 1, by omega⟩
    simp only [standbylaw55_CurveQueues.l1]
    rw [if_neg (by omega), awake_rg K (by omega) (by omega)]; rfl
  | succ d ih =>
    intro i K hi hK hK2
    obtain ⟨K, rfl⟩ : ∃ K', K = K' + 1 := ⟨K - 1, by omega⟩
    obtain ⟨K, rfl⟩ : ∃ K', K = K' + 1 := ⟨K - 1, by omega⟩
    have e3 : wrap64 ((i : Int) + 1) = ((i + 1 : Nat) : Int) := by rw [w64 _ (by omega) (by omega)]; omega
    have h1 := wsum_bd hp 0 i; have h2 := lft_bd hp hq i
    have hn := ih (i + 1) K (by omega) (by omega) (by omega)
    simp only [standbylaw55_CurveQueues.l1, fst1_len, fst1_rd (fun t => wsum p 0 0 t) 101 i (by omega), fst1_rd (fun t => lft p q sl t) 101 i (by omega)]
    rw [if_pos (by omega), if_pos (by omega), if_pos (by omega), if_pos (by omega), w64 (wsum p 0 0 i - lft p q sl i) (by omega) (by omega), if_neg (by have := hB i (by omega); omega)]
    have jf : standbylaw55_CurveQueues.j4 (K + 1) D g B (fst1 (fun t => wsum p 0 0 t) 101) (fst1 (fun t => lft p q sl t) 101) 101 (i : Int) false = some true := by
      simp only [standbylaw55_CurveQueues.j4, e3]
      rw [if_neg (by simp)]; exact hn
    by_cases hg : g = 0
    · rw [if_pos hg, w64 ((i : Int) + D) (by omega) (by omega)]
      by_cases hlt : (i : Int) + D < ((101 : Nat) : Int)
      · have h3 := hD hg i (by omega)
        rw [if_pos hlt, if_pos (by omega), show (i : Int) + D = ((i + D.toNat : Nat) : Int) from by omega, fst1_rd (fun t => lft p q sl t) 101 (i + D.toNat) (by omega), decide_eq_false (by omega)]
        exact jf
      · rw [if_neg hlt]; exact jf
    · rw [if_neg hg]; exact jf
theorem que_l0 (D g B : Int) (hB0 : 0 ≤ B) (hD0 : 0 ≤ D) (hD1 : D ≤ 1152921606680588800) (hB : ∀ t : Nat, t ≤ 100 → wsum p 0 0 t - lft p q sl t ≤ B) (hD : g = 0 → ∀ t : Nat, (t : Int) + D ≤ 100 → wsum p 0 0 t ≤ lft p q sl (t + D.toNat)) :
    ∀ d i K : Nat, i + d = 100 → 30203 + 2 * d ≤ K → K < 30500 → standbylaw55_CurveQueues.l0 K p q sl D g B (fst1 (fun t => wsum p 0 0 t) (i + 1)) (fst1 (fun t => lft p q sl t) (i + 1)) (i : Int) = some true := by
  intro d
  induction d with
  | zero =>
    intro i K hi hK hK2
    obtain ⟨K, rfl⟩ : ∃ K', K = K' + 1 := ⟨K - 1, by omega⟩
    obtain rfl : i = 100 := by omega
    simp only [standbylaw55_CurveQueues.l0, fst1_len]
    rw [if_neg (by omega)]
    exact que_l1 hp hq D g B hB0 hD0 hD1 hB hD 101 0 K (by omega) (by omega) (by omega)
  | succ d ih =>
    intro i K hi hK hK2
    obtain ⟨K, rfl⟩ : ∃ K', K = K' + 1 := ⟨K - 1, by omega⟩
    obtain ⟨K, rfl⟩ : ∃ K', K = K' + 1 := ⟨K - 1, by omega⟩
    have e3 : wrap64 ((i : Int) + 1) = ((i + 1 : Nat) : Int) := by rw [w64 _ (by omega) (by omega)]; omega
    have h1 := wsum_bd hp 0 i; have h2 := lft_bd hp hq i; have h3 := sq_bd hp i; have h4 := sq_bd hq i
    have hn := ih (i + 1) K (by omega) (by omega) (by omega)
    rw [fst1_succ (fun t => wsum p 0 0 t) (i + 1), fst1_succ (fun t => lft p q sl t) (i + 1)] at hn
    have k : ∀ z : Int, standbylaw55_CurveQueues.j2 (K + 1) p q sl D g B (fst1 (fun t => wsum p 0 0 t) (i + 1)) (fst1 (fun t => lft p q sl t) (i + 1)) (i : Int) (sq p 0 i) sl (i : Int) = some true := fun _ => by
      have e0 : wsum p 0 0 i + sq p 0 i = wsum p 0 0 (i + 1) := by simp only [wsum, Nat.zero_add]
      simp only [standbylaw55_CurveQueues.j2, e3, fst1_len, fst1_rd (fun t => wsum p 0 0 t) (i + 1) i (by omega), fst1_rd (fun t => lft p q sl t) (i + 1) i (by omega), Option.bind_some, List.length_singleton]
      rw [w64 (wsum p 0 0 i + sq p 0 i) (by omega) (by omega), e0]
      by_cases hlt : (i : Int) < (q.length : Int)
      · have e1 : sq q sl i = rd q (i : Int) := by unfold sq; rw [if_pos (by omega)]
        rw [if_pos hlt, if_pos (by omega), if_pos (by omega), if_pos (by omega), if_pos (by omega), if_pos (by omega), w64 (lft p q sl i + rd q (i : Int)) (by omega) (by omega), ← e1]
        exact hn
      · have e1 : sq q sl i = sl := by unfold sq; rw [if_neg (by omega)]
        rw [if_neg hlt, if_pos (by omega), if_pos (by omega), if_pos (by omega), if_pos (by omega), if_pos (by omega)]
        have e2 : wrap64 (lft p q sl i + sl) = lft p q sl i + sq q sl i := by rw [e1]; exact w64 _ (by omega) (by omega)
        rw [e2]
        exact hn
    simp only [standbylaw55_CurveQueues.l0]
    rw [if_pos (by omega)]
    by_cases hlt : (i : Int) < (p.length : Int)
    · have e1 : sq p 0 i = rd p (i : Int) := by unfold sq; rw [if_pos (by omega)]
      have h := k 0
      rw [e1] at h
      rw [if_pos hlt, if_pos (by omega)]; exact h
    · have e1 : sq p 0 i = 0 := by unfold sq; rw [if_neg (by omega)]
      have h := k 0
      rw [e1] at h
      rw [if_neg hlt]; exact h
end
theorem que_t (K : Nat) (hK : 30001 ≤ K) (hK2 : K < 30500) (p q : List Int) (sl : Int) : standbylaw55_CurveQueues.j0 K p q sl true = some true := by
  obtain ⟨K, rfl⟩ : ∃ K', K = K' + 1 := ⟨K - 1, by omega⟩
  simp only [standbylaw55_CurveQueues.j0]
  rw [if_pos trivial, awake_rg K (by omega) (by omega)]; rfl
theorem que_f (p q : List Int) (sl : Int) : standbylaw55_CurveQueues.f 30490 p q sl = some true := by
  unfold standbylaw55_CurveQueues.f
  obtain ⟨b, hb, hb2⟩ := qsmall_f p 0
  obtain ⟨c, hc, hc2⟩ := qsmall_f q sl
  rw [hb, hc, Option.bind_some, Option.bind_some]
  cases b
  · rw [if_neg (by simp), que_t 30490 (by decide) (by decide)]
  · rw [if_pos rfl]
    cases c
    · exact que_t 30490 (by decide) (by decide) p q sl
    · obtain ⟨hp, hpl⟩ := hb2 rfl
      obtain ⟨hq, hql⟩ := hc2 rfl
      obtain ⟨r, hr, hrC, hrv⟩ := win_small bet_mx hp hpl
      obtain ⟨u, hu, huC, huv⟩ := win_small bet_mn hq hql
      show standbylaw55_CurveQueues.j0 (30489 + 1) p q sl false = some true
      simp only [standbylaw55_CurveQueues.j0]
      rw [if_neg (by simp)]
      unfold curve_Arrival.f curve_Service.f
      rw [hr, hu]
      simp only [Option.bind_some]
      rw [if_pos trivial, if_pos trivial]
      have hs := hq.2.1
      rcases backlog_val hrC huC 30489 (by omega) with ⟨h, _⟩ | ⟨_, hBv⟩
      · omega
      have hB0 := (grF_bd (blgV r 0 u sl) (max r.length u.length)).1
      have hB1 := que_back hrv huv _ (fun n => backlog_sup hrC huC hs n)
      have st : ∀ D g : Int, 0 ≤ D → D ≤ 1152921606680588800 → (g = 0 → ∀ t : Nat, (t : Int) + D ≤ 100 → wsum p 0 0 t ≤ lft p q sl (t + D.toNat)) → standbylaw55_CurveQueues.l0 30489 p q sl D g (grF (blgV r 0 u sl) (max r.length u.length)) [0] [0] 0 = some true := fun D g h0 h1 h2 => by
        have h := que_l0 hp hq D g _ hB0 h0 h1 hB1 h2 100 0 30489 (by omega) (by omega) (by omega)
        exact h
      rw [hBv]
      rcases delay_val hrC huC 30489 (by omega) with h | ⟨hst, hz, h⟩
      · rw [h, Option.bind_some, Option.bind_some, if_pos rfl]
        exact st 0 21 (by omega) (by omega) (fun h => absurd h (by decide))
      · rw [h, Option.bind_some, Option.bind_some, if_pos rfl]
        have hD0 := (grF_bd (dlyV r 0 u sl) (max r.length u.length)).1
        refine st _ 0 hD0 (delay_fits hrC huC hst hz) (fun _ t ht => ?_)
        refine que_delay hrv huv hp hq _ (fun n => ?_) t (by omega)
        rw [show ((grF (dlyV r 0 u sl) (max r.length u.length)).toNat : Int) = grF (dlyV r 0 u sl) (max r.length u.length) from by omega]
        exact delay_sup hrC huC hst hz n
theorem CurveQueues_run (A0 : Option Addr) (c0 : Nat) (l0 : List Int) (A1 : Option Addr) (c1 : Nat) (l1 : List Int) (a2 : Int) (w : World) (hr0 : Kd.C (Kd.int .i64) w A0 l0.length l0) (hc0 : l0.length ≤ c0) (hr1 : Kd.C (Kd.int .i64) w A1 l1.length l1) (hc1 : l1.length ≤ c1) :
    Calls Try.prog 7 #[.slice A0 l0.length c0, .slice A1 l1.length c1, .int .i64 a2] w fun e w' => e = .returned (.bool true) ∧ Below w.heap.size w w' :=
  standbylaw55_CurveQueues.calls 30490 A0 c0 l0 A1 c1 l1 a2 true w hr0 hc0 hr1 hc1 (que_f l0 l1 a2)
end Go.Proofs.Ytanlonngekgibaa.Pr

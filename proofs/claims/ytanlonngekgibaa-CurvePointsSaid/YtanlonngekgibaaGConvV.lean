/- Both convolutions answer alike. -/
import Derived.Test.YtanlonngekgibaaGCurV
import Derived.Test.YtanlonngekgibaaGConv
import Derived.Test.YtanlonngekgibaaF22
namespace Go.Proofs.Ytanlonngekgibaa.Pr
open Go.RowKit Go.Proofs.YtanlonngekgibaaW.PrintWords Go.Proofs.YtanlonngekgibaaW.PrintLast Go.Proofs.YtanlonngekgibaaW.PrintMore
set_option linter.unusedVariables false
set_option linter.unusedSimpArgs false
/-- The convolution's value. -/
def cvl (l : List Int) (s : Int) (m : List Int) (t : Int) (x : Int) : Int := lst (x.toNat + 1) x (cv l s) (cv m t) x.toNat
def cvlP (l : List Int) (s : Int) (m : List Int) (t : Int) : Int := lst l.length ((l.length + m.length - 2 : Nat) : Int) (cv l s) (cv m t) (l.length - 1)
/-- Behind the two checks, with the crossing. -/
def cvlR (l : List Int) (s : Int) (m : List Int) (t c : Int) : List Int × Int × Int :=
  if ((l.length + m.length - 2 : Nat) : Int) + 1 + c > 4096 then ([], 0, 5) else finV (vals (cvl l s m t) (((l.length + m.length - 2 : Nat) : Int) + 1 + c).toNat) (mn s t)
section
variable {l : List Int} {s : Int} {m : List Int} {t : Int} (hl : CurOk l s) (hm : CurOk m t)
include hl hm
theorem cvlP_bd : 0 ≤ cvlP l s m t ∧ cvlP l s m t ≤ 42951820443648 := by
  have h1 := hl.h1; have h2 := hl.h2; have h3 := hm.h1; have h4 := hm.h2
  have h := lst_bd l.length ((l.length + m.length - 2 : Nat) : Int) (cv l s) (cv m t) 21475910221824 (by decide)
    (fun x h0 h1 => by have := cv_bd hl x h0 (by omega); exact ⟨this.1, this.2.2 (by omega)⟩) (fun x h0 h1 => by have := cv_bd hm x h0 (by omega); exact ⟨this.1, this.2.2 (by omega)⟩) (l.length - 1) (by omega) (by omega)
  unfold cvlP; omega
theorem least_cv (n : Nat) (rest : Int) (h1 : 1 ≤ n) (hn : n ≤ 20000) (hr : (n : Int) - 1 ≤ rest ∧ rest ≤ 20000) (k : Nat) (hk : n + 1 ≤ k) : curve_least.f k (n : Int) rest (curve_curve_at.f l s) (curve_curve_at.f m t) = some (lst n rest (cv l s) (cv m t) (n - 1)) :=
  least_f _ _ (cv l s) (cv m t) n rest h1 hn hr (fun x h0 h1 => at_f hl x h0 (by omega)) (fun x h0 h1 => at_f hm x h0 (by omega)) k hk
theorem conv_cross : ∃ c, curve_crossing.f (cvlP l s m t) t (cvlP m t l s) s = some c ∧ 0 ≤ c ∧ c ≤ 1152921506000000000 := by
  have h1 := cvlP_bd hl hm
  have h2 := cvlP_bd hm hl
  exact crossing_f _ _ _ _ (by omega) (by omega) hm.s hl.s
theorem convF_f (k : Nat) (hk : 5000 ≤ k) (i : Nat) (hi : i < 4096) : convF k l s m t (i : Int) = some (cvl l s m t (i : Int)) := by
  unfold convF cvl
  rw [show wrap64 ((i : Int) + 1) = ((i + 1 : Nat) : Int) from by rw [w64 _ (by omega) (by omega)]; omega, least_cv hl hm (i + 1) (i : Int) (by omega) (by omega) (by omega) k (by omega), Int.toNat_natCast]
  rfl
theorem convG_f (k : Nat) (hk : 9000 ≤ k) (c : Int) (hc : curve_crossing.f (cvlP l s m t) t (cvlP m t l s) s = some c) (h0 : 0 ≤ c) (hc2 : c ≤ 1152921506000000000) : convG k l s m t = some (cvlR l s m t c) := by
  have h1 := hl.h1; have h2 := hl.h2; have h3 := hm.h1; have h4 := hm.h2
  unfold convG
  have e : wrap64 (wrap64 ((l.length : Int) + (m.length : Int)) - 2) = ((l.length + m.length - 2 : Nat) : Int) := by
    rw [w64 ((l.length : Int) + (m.length : Int)) (by omega) (by omega), w64 _ (by omega) (by omega)]; omega
  have e2 : m.length + l.length - 2 = l.length + m.length - 2 := by omega
  rw [e, least_cv hl hm l.length _ h1 (by omega) (by omega) k (by omega), least_cv hm hl m.length _ h3 (by omega) (by omega) k (by omega), Option.bind_some, Option.bind_some]
  have hc' := hc
  unfold cvlP at hc'
  rw [e2] at hc'
  rw [hc', Option.bind_some, w64 (((l.length + m.length - 2 : Nat) : Int) + 1) (by omega) (by omega), w64 (((l.length + m.length - 2 : Nat) : Int) + 1 + c) (by omega) (by omega)]
  unfold cvlR
  by_cases hN : ((l.length + m.length - 2 : Nat) : Int) + 1 + c > 4096
  · rw [if_pos hN]
    unfold curve_made.f
    rw [if_pos hN]
  · rw [if_neg hN]
    obtain ⟨N, hN2⟩ : ∃ N : Nat, (N : Int) = ((l.length + m.length - 2 : Nat) : Int) + 1 + c := ⟨(((l.length + m.length - 2 : Nat) : Int) + 1 + c).toNat, by omega⟩
    rw [← hN2, Int.toNat_natCast]
    exact made_f _ (cvl l s m t) N (mn s t) (by omega) (fun i hi => convF_f hl hm k (by omega) i (by omega)) k (by omega)
theorem at2_l0 (x : Nat) (hx : x ≤ 4096) : ∀ d j k : Nat, j + d = x → d + 1 ≤ k → standbyref55_At2.l0 k (x : Int) (lst (x + 1) (x : Int) (cv l s) (cv m t) j) ((j + 1 : Nat) : Int) l s m t = some (lst (x + 1) (x : Int) (cv l s) (cv m t) x) := by
  intro d
  induction d with
  | zero =>
    intro j k hj hk
    obtain ⟨k, rfl⟩ : ∃ k', k = k' + 1 := ⟨k - 1, by omega⟩
    simp only [standbyref55_At2.l0]
    rw [if_neg (by omega), show x = j from by omega]
  | succ d ih =>
    intro j k hj hk
    obtain ⟨k, rfl⟩ : ∃ k', k = k' + 1 := ⟨k - 1, by omega⟩
    have e3 : wrap64 (((j + 1 : Nat) : Int) + 1) = ((j + 1 + 1 : Nat) : Int) := by rw [w64 _ (by omega) (by omega)]; omega
    have e4 : wrap64 ((x : Int) - ((j + 1 : Nat) : Int)) = (x : Int) - ((j : Int) + 1) := by rw [w64 _ (by omega) (by omega)]; omega
    have e5 : ((j + 1 : Nat) : Int) = (j : Int) + 1 := by omega
    simp only [standbyref55_At2.l0, e3, e4]
    rw [if_pos (by omega), value_f hl _ (by omega) (by omega), value_f hm _ (by omega) (by omega), Option.bind_some, Option.bind_some, e5, ← lst_succ]
    exact ih (j + 1) k (by omega) (by omega)
theorem at2_f (x : Nat) (hx : x ≤ 4096) (k : Nat) (hk : 4100 ≤ k) : standbyref55_At2.f k l s m t (x : Int) = some (cvl l s m t (x : Int)) := by
  unfold standbyref55_At2.f cvl
  rw [value_f hl 0 (by omega) (by omega), value_f hm (x : Int) (by omega) (by omega), Option.bind_some, Option.bind_some, Int.toNat_natCast]
  exact at2_l0 hl hm x hx x 0 k (by omega) (by omega)
theorem rconv_l2 (la : Nat) (c : Int) (N : Nat) (hN : (N : Int) = (la : Int) + 1 + c) (hN2 : N ≤ 4096) (hc : 0 ≤ c) : ∀ d i k : Nat, i + d = N → d + 5000 ≤ k → standbyref55_Convolve.l2 k (la : Int) c (vals (cvl l s m t) i) (i : Int) l s m t = some (finV (vals (cvl l s m t) N) (mn s t)) := by
  intro d
  induction d with
  | zero =>
    intro i k hi hk
    obtain ⟨k, rfl⟩ : ∃ k', k = k' + 1 := ⟨k - 1, by omega⟩
    obtain rfl : i = N := by omega
    simp only [standbyref55_Convolve.l2]
    rw [w64 ((la : Int) + c) (by omega) (by omega), if_neg (by omega), finish_f _ _ k (by omega)]
    rfl
  | succ d ih =>
    intro i k hi hk
    obtain ⟨k, rfl⟩ : ∃ k', k = k' + 1 := ⟨k - 1, by omega⟩
    have e3 : wrap64 ((i : Int) + 1) = ((i + 1 : Nat) : Int) := by rw [w64 _ (by omega) (by omega)]; omega
    simp only [standbyref55_Convolve.l2, e3]
    rw [w64 ((la : Int) + c) (by omega) (by omega), if_pos (by omega), at2_f hl hm i (by omega) k (by omega), Option.bind_some, if_pos (by rw [vals_len]; omega), ← vals_succ]
    exact ih (i + 1) k (by omega) (by omega)
theorem rconv_l1 (hla : l.length + m.length ≤ 9000) (p c : Int) (hcr : curve_crossing.f p t (cvlP m t l s) s = some c) (hc : 0 ≤ c) (hc2 : c ≤ 1152921506000000000) : ∀ d j k : Nat, j + 1 + d = m.length → d + 10000 ≤ k →
    standbyref55_Convolve.l1 k (m.length : Int) ((l.length + m.length - 2 : Nat) : Int) p (lst m.length ((m.length + l.length - 2 : Nat) : Int) (cv m t) (cv l s) j) ((j + 1 : Nat) : Int) l s m t = some (cvlR l s m t c) := by
  have h1 := hl.h1; have h2 := hl.h2; have h3 := hm.h1; have h4 := hm.h2
  have e2 : m.length + l.length - 2 = l.length + m.length - 2 := by omega
  intro d
  induction d with
  | zero =>
    intro j k hj hk
    obtain ⟨k, rfl⟩ : ∃ k', k = k' + 1 := ⟨k - 1, by omega⟩
    simp only [standbyref55_Convolve.l1]
    rw [if_neg (by omega), crossing_alike]
    have hcr' := hcr
    unfold cvlP at hcr'
    rw [show m.length - 1 = j from by omega] at hcr'
    rw [hcr', Option.bind_some, w64 (((l.length + m.length - 2 : Nat) : Int) + 1) (by omega) (by omega), w64 (((l.length + m.length - 2 : Nat) : Int) + 1 + c) (by omega) (by omega)]
    unfold cvlR
    by_cases hN : ((l.length + m.length - 2 : Nat) : Int) + 1 + c > 4096
    · rw [if_pos hN, if_pos hN]
    · rw [if_neg hN, if_neg hN]
      obtain ⟨N, hN2⟩ : ∃ N : Nat, (N : Int) = ((l.length + m.length - 2 : Nat) : Int) + 1 + c := ⟨(((l.length + m.length - 2 : Nat) : Int) + 1 + c).toNat, by omega⟩
      rw [← hN2, Int.toNat_natCast]
      exact rconv_l2 hl hm (l.length + m.length - 2) c N hN2 (by omega) hc N 0 k (by omega) (by omega)
  | succ d ih =>
    intro j k hj hk
    obtain ⟨k, rfl⟩ : ∃ k', k = k' + 1 := ⟨k - 1, by omega⟩
    have e3 : wrap64 (((j + 1 : Nat) : Int) + 1) = ((j + 1 + 1 : Nat) : Int) := by rw [w64 _ (by omega) (by omega)]; omega
    have e4 : wrap64 (((l.length + m.length - 2 : Nat) : Int) - ((j + 1 : Nat) : Int)) = ((m.length + l.length - 2 : Nat) : Int) - ((j : Int) + 1) := by rw [w64 _ (by omega) (by omega)]; omega
    have e5 : ((j + 1 : Nat) : Int) = (j : Int) + 1 := by omega
    simp only [standbyref55_Convolve.l1, e3, e4]
    rw [if_pos (by omega), value_f hl _ (by omega) (by omega), value_f hm _ (by omega) (by omega), Option.bind_some, Option.bind_some, e5, Int.add_comm (cv l s _) (cv m t _), ← lst_succ]
    exact ih (j + 1) k (by omega) (by omega)
theorem rconv_l0 (hla : l.length + m.length ≤ 9000) (c : Int) (hcr : curve_crossing.f (cvlP l s m t) t (cvlP m t l s) s = some c) (hc : 0 ≤ c) (hc2 : c ≤ 1152921506000000000) : ∀ d j k : Nat, j + 1 + d = l.length → d + 15000 ≤ k →
    standbyref55_Convolve.l0 k (l.length : Int) (m.length : Int) ((l.length + m.length - 2 : Nat) : Int) (lst l.length ((l.length + m.length - 2 : Nat) : Int) (cv l s) (cv m t) j) ((j + 1 : Nat) : Int) l s m t = some (cvlR l s m t c) := by
  have h1 := hl.h1; have h2 := hl.h2; have h3 := hm.h1; have h4 := hm.h2
  have e2 : m.length + l.length - 2 = l.length + m.length - 2 := by omega
  intro d
  induction d with
  | zero =>
    intro j k hj hk
    obtain ⟨k, rfl⟩ : ∃ k', k = k' + 1 := ⟨k - 1, by omega⟩
    simp only [standbyref55_Convolve.l0]
    rw [if_neg (by omega), value_f hl _ (by omega) (by omega), value_f hm _ (by omega) (by omega), Option.bind_some, Option.bind_some, Int.add_comm (cv l s _) (cv m t _)]
    have h := rconv_l1 hl hm hla (cvlP l s m t) c hcr hc hc2 (m.length - 1) 0 k (by omega) (by omega)
    unfold cvlP at h
    rw [show l.length - 1 = j from by omega, e2] at h
    exact h
  | succ d ih =>
    intro j k hj hk
    obtain ⟨k, rfl⟩ : ∃ k', k = k' + 1 := ⟨k - 1, by omega⟩
    have e3 : wrap64 (((j + 1 : Nat) : Int) + 1) = ((j + 1 + 1 : Nat) : Int) := by rw [w64 _ (by omega) (by omega)]; omega
    have e4 : wrap64 (((l.length + m.length - 2 : Nat) : Int) - ((j + 1 : Nat) : Int)) = ((l.length + m.length - 2 : Nat) : Int) - ((j : Int) + 1) := by rw [w64 _ (by omega) (by omega)]; omega
    have e5 : ((j + 1 : Nat) : Int) = (j : Int) + 1 := by omega
    simp only [standbyref55_Convolve.l0, e3, e4]
    rw [if_pos (by omega), value_f hl _ (by omega) (by omega), value_f hm _ (by omega) (by omega), Option.bind_some, Option.bind_some, e5, ← lst_succ]
    exact ih (j + 1) k (by omega) (by omega)
end
/-- What both answer. -/
theorem convolve_alike (l : List Int) (s : Int) (m : List Int) (t : Int) (k : Nat) (hk : 20000 ≤ k) : ∃ r, r.1.length ≤ 4096 ∧ curve_Convolve.f k l s m t = some r ∧ standbyref55_Convolve.f k l s m t = some r := by
  unfold curve_Convolve.f standbyref55_Convolve.f
  rw [check_f l s k (by omega), check_f m t k (by omega), rpair_f l s m t k (by omega)]
  simp only [Option.bind_some]
  by_cases h1 : chkC l s = 0
  · rw [if_pos h1, if_pos h1]
    by_cases h2 : chkC m t = 0
    · rw [if_pos h2, if_pos h2]
      have hl := chk_zero h1
      have hm := chk_zero h2
      have g1 := hl.h1; have g2 := hl.h2; have g3 := hm.h1; have g4 := hm.h2
      obtain ⟨c, hc, c0, c1⟩ := conv_cross hl hm
      refine ⟨cvlR l s m t c, ?_, convG_f hl hm k (by omega) c hc c0 c1, ?_⟩
      · unfold cvlR
        split
        · simp
        · exact finV_len _ _
      · have e : wrap64 (wrap64 ((l.length : Int) + (m.length : Int)) - 2) = ((l.length + m.length - 2 : Nat) : Int) := by
          rw [w64 ((l.length : Int) + (m.length : Int)) (by omega) (by omega), w64 _ (by omega) (by omega)]; omega
        rw [e, value_f hl 0 (by omega) (by omega), value_f hm _ (by omega) (by omega), Option.bind_some, Option.bind_some]
        exact rconv_l0 hl hm (by omega) c hc c0 c1 (l.length - 1) 0 k (by omega) (by omega)
    · rw [if_neg h2, if_neg h2]
      exact ⟨_, by simp, rfl, rfl⟩
  · rw [if_neg h1, if_neg h1, if_neg h1]
    exact ⟨_, by simp, rfl, rfl⟩
end Go.Proofs.Ytanlonngekgibaa.Pr

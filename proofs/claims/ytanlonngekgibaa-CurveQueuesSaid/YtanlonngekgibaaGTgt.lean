/- What curve.Delay and curve.Backlog answer means for the values of both curves at every time. -/
import Derived.Test.YtanlonngekgibaaGDevV
namespace Go.Proofs.Ytanlonngekgibaa.Pr
open Go.RowKit Go.Proofs.YtanlonngekgibaaW.PrintWords Go.Proofs.YtanlonngekgibaaW.PrintLast Go.Proofs.YtanlonngekgibaaW.PrintMore
set_option linter.unusedVariables false
set_option linter.unusedSimpArgs false
theorem tline (l : List Int) (s x : Int) (h : (l.length : Int) - 1 ≤ x) : cv l s x = rd l ((l.length : Int) - 1) + (x - ((l.length : Int) - 1)) * s := by
  unfold cv
  by_cases hlt : x < (l.length : Int)
  · rw [if_pos hlt, show x = (l.length : Int) - 1 from by omega, show (l.length : Int) - 1 - ((l.length : Int) - 1) = 0 from by omega]; omega
  · rw [if_neg hlt, show x - (l.length : Int) + 1 = x - ((l.length : Int) - 1) from by omega]
theorem tnext (l : List Int) (s x y : Int) (h : (l.length : Int) - 1 ≤ x) (hxy : x ≤ y) : cv l s y = cv l s x + (y - x) * s := by
  rw [tline l s x h, tline l s y (by omega), show y - ((l.length : Int) - 1) = (x - ((l.length : Int) - 1)) + (y - x) from by omega, Int.add_mul]
  omega
/-- A correct curve never becomes less. -/
theorem tmono {l : List Int} {s : Int} (hl : CurOk l s) (x y : Int) (h0 : 0 ≤ x) (hxy : x ≤ y) : cv l s x ≤ cv l s y := by
  have hs := hl.s; have h1 := hl.h1
  unfold TimeOk at hs
  have beh : ∀ a b : Int, (l.length : Int) - 1 ≤ a → a ≤ b → cv l s a ≤ cv l s b := fun a b h hab => by
    rw [tnext l s a b h hab]
    have := Int.mul_nonneg (show 0 ≤ b - a by omega) hs.1
    omega
  have inn : ∀ a b : Int, 0 ≤ a → a ≤ b → b < (l.length : Int) → cv l s a ≤ cv l s b := fun a b ha hab hb => by
    have := srt_le hl.up a.toNat b.toNat (by omega) (by omega)
    rw [show (a.toNat : Int) = a from by omega, show (b.toNat : Int) = b from by omega] at this
    unfold cv
    rw [if_pos (by omega), if_pos (by omega)]; exact this
  by_cases hy : y < (l.length : Int)
  · exact inn x y h0 hxy hy
  · by_cases hx : (l.length : Int) - 1 ≤ x
    · exact beh x y hx hxy
    · exact Int.le_trans (inn x ((l.length : Int) - 1) h0 (by omega) (by omega)) (beh _ y (Int.le_refl _) (by omega))
theorem grF_bd (f : Int → Int) : ∀ n : Nat, 0 ≤ grF f n ∧ (∀ i : Nat, i < n → f (i : Int) ≤ grF f n) ∧ (grF f n = 0 ∨ ∃ i : Nat, i < n ∧ grF f n = f (i : Int)) := by
  intro n
  induction n with
  | zero => exact ⟨Int.le_refl _, fun i hi => by omega, Or.inl rfl⟩
  | succ n ih =>
    obtain ⟨h0, h1, h2⟩ := ih
    rw [grF_succ]
    unfold mx
    by_cases h : grF f n < f (n : Int)
    · rw [if_pos h]
      refine ⟨by omega, fun i hi => ?_, Or.inr ⟨n, by omega, rfl⟩⟩
      by_cases e : i = n
      · subst e; exact Int.le_refl _
      · have := h1 i (by omega); omega
    · rw [if_neg h]
      refine ⟨h0, fun i hi => ?_, ?_⟩
      · by_cases e : i = n
        · subst e; omega
        · exact h1 i (by omega)
      · rcases h2 with h2 | ⟨i, hi, e⟩
        · exact Or.inl h2
        · exact Or.inr ⟨i, by omega, e⟩
/-- The first time at which a curve has a value. -/
theorem rch_spec {m : List Int} {t : Int} (hm : CurOk m t) (v : Int) (h0 : 0 ≤ v) (hv : v ≤ 1152921505680588800) (i0 : Nat) (hi0 : IsFst m v i0) (ht : i0 < m.length ∨ t ≠ 0) :
    0 ≤ rchV m t v i0 ∧ rchV m t v i0 ≤ 1152921606680588800 ∧ v ≤ cv m t (rchV m t v i0) ∧ ∀ x : Int, 0 ≤ x → x < rchV m t v i0 → cv m t x < v := by
  have g1 := hm.h1; have g2 := hm.h2; have hs := hm.s
  unfold TimeOk at hs
  by_cases hi : i0 < m.length
  · have e : rchV m t v i0 = (i0 : Int) := by unfold rchV; rw [if_pos hi]
    rw [e]
    refine ⟨by omega, by omega, ?_, fun x hx0 hx => ?_⟩
    · unfold cv; rw [if_pos (by omega)]; exact hi0.ge hi
    · have := hi0.lt x.toNat (by omega)
      rw [show (x.toNat : Int) = x from by omega] at this
      unfold cv; rw [if_pos (by omega)]; exact this
  · have hi1 : i0 = m.length := by have := hi0.le; omega
    have ht0 := ht.resolve_left hi
    have hlast := hi0.lt (m.length - 1) (by omega)
    rw [show ((m.length - 1 : Nat) : Int) = (m.length : Int) - 1 from by omega] at hlast
    have hlb := hm.t _ (rd_mem m ((m.length : Int) - 1) (by omega) (by omega))
    unfold TimeOk at hlb
    obtain ⟨z, hz⟩ : ∃ z, rd m ((m.length : Int) - 1) = z := ⟨_, rfl⟩
    rw [hz] at hlast hlb
    obtain ⟨q, hq⟩ : ∃ q, (v - z + t - 1) / t = q := ⟨_, rfl⟩
    have ee := Int.emod_add_mul_ediv (v - z + t - 1) t
    have e0 := Int.emod_nonneg (v - z + t - 1) ht0
    have e1 := Int.emod_lt_of_pos (v - z + t - 1) (show 0 < t by omega)
    rw [hq, Int.mul_comm] at ee
    have q0 : 0 ≤ q := by rw [← hq]; exact Int.ediv_nonneg (by omega) (by omega)
    have q1 : q ≤ v - z + t - 1 := by rw [← hq]; exact Int.ediv_le_self _ (by omega)
    have e : rchV m t v i0 = (m.length : Int) - 1 + q := by
      unfold rchV
      rw [if_neg hi, w64 ((m.length : Int) - 1) (by omega) (by omega), hz, w64 (v - z) (by omega) (by omega), w64 (v - z + t) (by omega) (by omega), w64 (v - z + t - 1) (by omega) (by omega), Int.tdiv_eq_ediv_of_nonneg (by omega), hq, w64 q (by omega) (by omega), w64 _ (by omega) (by omega)]
    rw [e]
    refine ⟨by omega, by omega, ?_, fun x hx0 hx => ?_⟩
    · rw [tline m t _ (by omega), hz, show (m.length : Int) - 1 + q - ((m.length : Int) - 1) = q from by omega]; omega
    · by_cases hxm : x < (m.length : Int)
      · have := hi0.lt x.toNat (by omega)
        rw [show (x.toNat : Int) = x from by omega] at this
        unfold cv; rw [if_pos hxm]; exact this
      · rw [tline m t x (by omega), hz]
        have p := Int.mul_le_mul_of_nonneg_right (show x - ((m.length : Int) - 1) ≤ q - 1 by omega) hs.1
        rw [Int.sub_mul q 1 t] at p
        omega
section
variable {l : List Int} {s : Int} {m : List Int} {t : Int} (hl : CurOk l s) (hm : CurOk m t)
include hl hm
/-- The delay of a time, without the machine's wrapping. -/
theorem dly_spec (hst : s ≤ t) (hz : t = 0 → rd l ((l.length : Int) - 1) ≤ rd m ((m.length : Int) - 1)) (i : Nat) (hi : i < max l.length m.length) :
    0 ≤ dlyV l s m t (i : Int) + (i : Int) ∧ cv l s (i : Int) ≤ cv m t ((i : Int) + dlyV l s m t (i : Int)) ∧ ∀ x : Int, 0 ≤ x → x < (i : Int) + dlyV l s m t (i : Int) → cv m t x < cv l s (i : Int) := by
  have h1 := hl.h2; have h2 := hm.h2
  have b := cv_bd hl (i : Int) (by omega) (by omega)
  obtain ⟨r0, r1, r2, r3⟩ := rch_spec hm (cv l s (i : Int)) b.1 b.2.1 _ (fstI_spec m _) (reached hl hm hst hz i hi)
  have e : dlyV l s m t (i : Int) = rchV m t (cv l s (i : Int)) (fstI m (cv l s (i : Int))) - (i : Int) := by unfold dlyV; exact w64 _ (by omega) (by omega)
  rw [e]
  refine ⟨by omega, ?_, fun x h0 hx => r3 x h0 (by omega)⟩
  rw [show (i : Int) + (rchV m t (cv l s (i : Int)) (fstI m (cv l s (i : Int))) - (i : Int)) = rchV m t (cv l s (i : Int)) (fstI m (cv l s (i : Int))) from by omega]
  exact r2
theorem delay_sup (hst : s ≤ t) (hz : t = 0 → rd l ((l.length : Int) - 1) ≤ rd m ((m.length : Int) - 1)) (n : Nat) :
    cv l s (n : Int) ≤ cv m t ((n : Int) + grF (dlyV l s m t) (max l.length m.length)) := by
  have g1 := hl.h1; have g2 := hm.h1
  obtain ⟨d0, d1, _⟩ := grF_bd (dlyV l s m t) (max l.length m.length)
  obtain ⟨D, hD⟩ : ∃ D, grF (dlyV l s m t) (max l.length m.length) = D := ⟨_, rfl⟩
  rw [hD] at d0 d1 ⊢
  have one : ∀ i : Nat, i < max l.length m.length → cv l s (i : Int) ≤ cv m t ((i : Int) + D) := fun i hi => by
    obtain ⟨q0, q1, _⟩ := dly_spec hl hm hst hz i hi
    have := d1 i hi
    exact Int.le_trans q1 (tmono hm _ _ (by omega) (by omega))
  by_cases hn : n < max l.length m.length
  · exact one n hn
  · obtain ⟨N, hN⟩ : ∃ N, N + 1 = max l.length m.length := ⟨max l.length m.length - 1, by omega⟩
    have h := one N (by omega)
    rw [tnext l s (N : Int) (n : Int) (by omega) (by omega), tnext m t ((N : Int) + D) ((n : Int) + D) (by omega) (by omega), show (n : Int) + D - ((N : Int) + D) = (n : Int) - (N : Int) from by omega]
    have := Int.mul_le_mul_of_nonneg_left hst (show 0 ≤ (n : Int) - (N : Int) by omega)
    omega
theorem delay_tight (hst : s ≤ t) (hz : t = 0 → rd l ((l.length : Int) - 1) ≤ rd m ((m.length : Int) - 1)) :
    grF (dlyV l s m t) (max l.length m.length) = 0 ∨ ∃ i : Nat, i < max l.length m.length ∧ 0 < (i : Int) + grF (dlyV l s m t) (max l.length m.length) ∧ cv m t ((i : Int) + grF (dlyV l s m t) (max l.length m.length) - 1) < cv l s (i : Int) := by
  obtain ⟨d0, _, d2⟩ := grF_bd (dlyV l s m t) (max l.length m.length)
  by_cases h0 : grF (dlyV l s m t) (max l.length m.length) = 0
  · exact Or.inl h0
  · rcases d2 with e | ⟨i, hi, e⟩
    · exact absurd e h0
    · obtain ⟨_, _, q2⟩ := dly_spec hl hm hst hz i hi
      refine Or.inr ⟨i, hi, by omega, ?_⟩
      rw [e]
      exact q2 _ (by omega) (by omega)
theorem blg_eq (i : Nat) (hi : i ≤ 4097) : blgV l s m t (i : Int) = cv l s (i : Int) - cv m t (i : Int) := by
  have b := cv_bd hl (i : Int) (by omega) (by omega); have c := cv_bd hm (i : Int) (by omega) (by omega)
  unfold blgV; exact w64 _ (by omega) (by omega)
theorem backlog_sup (hst : s ≤ t) (n : Nat) : cv l s (n : Int) - cv m t (n : Int) ≤ grF (blgV l s m t) (max l.length m.length) := by
  have g1 := hl.h1; have g2 := hm.h1; have g3 := hl.h2; have g4 := hm.h2
  obtain ⟨d0, d1, _⟩ := grF_bd (blgV l s m t) (max l.length m.length)
  have one : ∀ i : Nat, i < max l.length m.length → cv l s (i : Int) - cv m t (i : Int) ≤ grF (blgV l s m t) (max l.length m.length) := fun i hi => by
    have := d1 i hi
    rw [blg_eq hl hm i (by omega)] at this
    exact this
  by_cases hn : n < max l.length m.length
  · exact one n hn
  · obtain ⟨N, hN⟩ : ∃ N, N + 1 = max l.length m.length := ⟨max l.length m.length - 1, by omega⟩
    have h := one N (by omega)
    rw [tnext l s (N : Int) (n : Int) (by omega) (by omega), tnext m t (N : Int) (n : Int) (by omega) (by omega)]
    have := Int.mul_le_mul_of_nonneg_left hst (show 0 ≤ (n : Int) - (N : Int) by omega)
    omega
theorem backlog_tight (hst : s ≤ t) : grF (blgV l s m t) (max l.length m.length) = 0 ∨ ∃ i : Nat, i < max l.length m.length ∧ cv l s (i : Int) - cv m t (i : Int) = grF (blgV l s m t) (max l.length m.length) := by
  have g3 := hl.h2; have g4 := hm.h2
  obtain ⟨d0, _, d2⟩ := grF_bd (blgV l s m t) (max l.length m.length)
  rcases d2 with e | ⟨i, hi, e⟩
  · exact Or.inl e
  · exact Or.inr ⟨i, hi, by rw [e, blg_eq hl hm i (by omega)]⟩
end
theorem tok_chk {l : List Int} {s : Int} (h : CurOk l s) : chkC l s = 0 := by
  have h1 := h.h1; have h2 := h.h2
  unfold chkC
  rw [if_neg (by omega), if_neg (fun e => e.elim (fun ⟨x, hx, hn⟩ => hn (h.t x hx)) (fun hn => hn h.s)), if_pos h.up]
/-- What curve.Delay answers for two correct curves. -/
theorem delay_val {l : List Int} {s : Int} {m : List Int} {t : Int} (hl : CurOk l s) (hm : CurOk m t) (k : Nat) (hk : 20000 ≤ k) :
    (curve_Delay.f k l s m t = some (0, 21)) ∨ (s ≤ t ∧ (t = 0 → rd l ((l.length : Int) - 1) ≤ rd m ((m.length : Int) - 1)) ∧ curve_Delay.f k l s m t = some (grF (dlyV l s m t) (max l.length m.length), 0)) := by
  have g1 := hl.h1; have g2 := hl.h2; have g3 := hm.h1; have g4 := hm.h2
  unfold curve_Delay.f
  rw [check_f l s k (by omega), check_f m t k (by omega), tok_chk hl, tok_chk hm]
  rw [Option.bind_some, Option.bind_some, if_pos rfl, if_pos rfl]
  by_cases h3 : s > t
  · rw [if_pos h3]; exact Or.inl rfl
  rw [if_neg h3]
  have fin : ∀ hz : t = 0 → rd l ((l.length : Int) - 1) ≤ rd m ((m.length : Int) - 1), (curve_greatest.f k l s m t (delayF k l s m t)).bind (fun r => some (r, (0 : Int))) = some (grF (dlyV l s m t) (max l.length m.length), 0) := fun hz => by
    rw [greatest_f _ (dlyV l s m t) l s m t hl.h2 hm.h2 (fun i hi => delayF_f hl hm k (by omega) (by omega) hz i hi) k (by omega)]; rfl
  by_cases h4 : t = 0
  · rw [if_pos h4, if_pos (And.intro g1 g3)]
    by_cases h5 : rd l ((l.length : Int) - 1) > rd m ((m.length : Int) - 1)
    · rw [if_pos h5]; exact Or.inl rfl
    · rw [if_neg h5]
      exact Or.inr ⟨by omega, fun _ => by omega, fin (fun _ => by omega)⟩
  · rw [if_neg h4]
    exact Or.inr ⟨by omega, fun h => absurd h h4, fin (fun h => absurd h h4)⟩
theorem backlog_val {l : List Int} {s : Int} {m : List Int} {t : Int} (hl : CurOk l s) (hm : CurOk m t) (k : Nat) (hk : 20000 ≤ k) :
    (t < s ∧ curve_Backlog.f k l s m t = some (0, 21)) ∨ (s ≤ t ∧ curve_Backlog.f k l s m t = some (grF (blgV l s m t) (max l.length m.length), 0)) := by
  unfold curve_Backlog.f
  rw [check_f l s k (by omega), check_f m t k (by omega), tok_chk hl, tok_chk hm]
  rw [Option.bind_some, Option.bind_some, if_pos rfl, if_pos rfl]
  by_cases h3 : s > t
  · rw [if_pos h3]; exact Or.inl ⟨h3, rfl⟩
  · rw [if_neg h3, greatest_f _ (blgV l s m t) l s m t hl.h2 hm.h2 (fun i hi => backF_f hl hm i hi) k (by omega)]
    exact Or.inr ⟨by omega, rfl⟩
end Go.Proofs.Ytanlonngekgibaa.Pr

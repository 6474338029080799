/- Both delays and both backlogs answer alike. -/
import Derived.Test.YtanlonngekgibaaGCurV
import Derived.Test.YtanlonngekgibaaGDelay
import Derived.Test.YtanlonngekgibaaF25
import Derived.Test.YtanlonngekgibaaF27
namespace Go.Proofs.Ytanlonngekgibaa.Pr
open Go.RowKit Go.Proofs.YtanlonngekgibaaW.PrintWords Go.Proofs.YtanlonngekgibaaW.PrintLast Go.Proofs.YtanlonngekgibaaW.PrintMore
set_option linter.unusedVariables false
set_option linter.unusedSimpArgs false
/-- The greatest value, at least 0. -/
def grF (f : Int → Int) (n : Nat) : Int := (List.range n).foldl (fun b (i : Nat) => mx b (f (i : Int))) 0
theorem grF_succ (f : Int → Int) (n : Nat) : grF f (n + 1) = mx (grF f n) (f (n : Int)) := by simp [grF, List.range_succ, List.foldl_append]
theorem mx_len (a b : Nat) : mx (a : Int) (b : Int) = ((max a b : Nat) : Int) := by unfold mx; split <;> omega
theorem greatest_l0 (F : Int → Option Int) (f : Int → Int) (n : Nat) (hn : n ≤ 4096) (hF : ∀ i : Nat, i < n → F (i : Int) = some (f (i : Int))) : ∀ d i k : Nat, i + d = n → d + 1 ≤ k → curve_greatest.l0 F k (grF f i) (n : Int) (i : Int) = some (grF f n) := by
  intro d
  induction d with
  | zero =>
    intro i k hi hk
    obtain ⟨k, rfl⟩ : ∃ k', k = k' + 1 := ⟨k - 1, by omega⟩
    obtain rfl : i = n := by omega
    simp only [curve_greatest.l0]
    rw [if_neg (by omega)]
  | succ d ih =>
    intro i k hi hk
    obtain ⟨k, rfl⟩ : ∃ k', k = k' + 1 := ⟨k - 1, by omega⟩
    have e3 : wrap64 ((i : Int) + 1) = ((i + 1 : Nat) : Int) := by rw [w64 _ (by omega) (by omega)]; omega
    simp only [curve_greatest.l0, e3]
    rw [if_pos (by omega), hF i (by omega), Option.bind_some, ← grF_succ]
    exact ih (i + 1) k (by omega) (by omega)
theorem greatest_f (F : Int → Option Int) (f : Int → Int) (l : List Int) (s : Int) (m : List Int) (t : Int) (h1 : l.length ≤ 4096) (h2 : m.length ≤ 4096) (hF : ∀ i : Nat, i < max l.length m.length → F (i : Int) = some (f (i : Int))) (k : Nat) (hk : 4100 ≤ k) : curve_greatest.f k l s m t F = some (grF f (max l.length m.length)) := by
  unfold curve_greatest.f
  rw [mx_len]
  exact greatest_l0 F f (max l.length m.length) (by omega) hF (max l.length m.length) 0 k (by omega) (by omega)
theorem srt_mono {l : List Int} (h : Srt l) (i : Nat) : ∀ d : Nat, i + d < l.length → rd l (i : Int) ≤ rd l ((i + d : Nat) : Int) := by
  intro d
  induction d with
  | zero => intro _; exact Int.le_refl _
  | succ d ih =>
    intro hd
    have h1 := ih (by omega)
    have h2 := h (i + d) (by omega)
    have e : ((i + (d + 1) : Nat) : Int) = ((i + d : Nat) : Int) + 1 := by omega
    rw [e]; omega
theorem srt_le {l : List Int} (h : Srt l) (i j : Nat) (hij : i ≤ j) (hj : j < l.length) : rd l (i : Int) ≤ rd l (j : Int) := by
  have := srt_mono h i (j - i) (by omega)
  rw [show i + (j - i) = j from by omega] at this
  exact this
/-- The first place at which a value is reached. -/
structure IsFst (m : List Int) (v : Int) (i : Nat) : Prop where
  le : i ≤ m.length
  lt : ∀ j : Nat, j < i → rd m (j : Int) < v
  ge : i < m.length → v ≤ rd m (i : Int)
theorem exists_fst (m : List Int) (v : Int) : ∃ i, IsFst m v i := by
  have h : ∀ d i : Nat, i + d = m.length → (∀ j : Nat, j < i → rd m (j : Int) < v) → ∃ i, IsFst m v i := by
    intro d
    induction d with
    | zero => intro i hi hj; exact ⟨i, by omega, hj, fun h => by omega⟩
    | succ d ih =>
      intro i hi hj
      by_cases hv : v ≤ rd m (i : Int)
      · exact ⟨i, by omega, hj, fun _ => hv⟩
      · exact ih (i + 1) (by omega) (fun j hj2 => by
          by_cases e : j = i
          · subst e; omega
          · exact hj j (by omega))
  exact h m.length 0 (by omega) (fun j hj => by omega)
def rchV (m : List Int) (t v : Int) (i : Nat) : Int := if i < m.length then (i : Int) else wrap64 (wrap64 ((m.length : Int) - 1) + wrap64 (Int.tdiv (wrap64 (wrap64 (wrap64 (v - rd m (wrap64 ((m.length : Int) - 1))) + t) - 1)) t))
theorem rreach_l0 (m : List Int) (t v : Int) (h1 : 1 ≤ m.length) (h2 : m.length ≤ 4096) (i0 : Nat) (hi0 : IsFst m v i0) (ht : i0 < m.length ∨ t ≠ 0) : ∀ d i k : Nat, i + d = m.length → i ≤ i0 → d + 1 ≤ k → standbyref55_reach.l0 k v (i : Int) m t = some (rchV m t v i0) := by
  intro d
  induction d with
  | zero =>
    intro i k hi hle hk
    obtain ⟨k, rfl⟩ : ∃ k', k = k' + 1 := ⟨k - 1, by omega⟩
    have := hi0.le
    simp only [standbyref55_reach.l0]
    unfold rchV
    rw [if_neg (by omega), if_neg (c := i0 < m.length) (by omega), if_pos (by rw [w64 _ (by omega) (by omega)]; omega), if_pos (by rw [w64 _ (by omega) (by omega)]; omega), if_neg (ht.resolve_left (by omega))]
  | succ d ih =>
    intro i k hi hle hk
    obtain ⟨k, rfl⟩ : ∃ k', k = k' + 1 := ⟨k - 1, by omega⟩
    have e3 : wrap64 ((i : Int) + 1) = ((i + 1 : Nat) : Int) := by rw [w64 _ (by omega) (by omega)]; omega
    simp only [standbyref55_reach.l0, e3]
    rw [if_pos (by omega), if_pos (by omega)]
    by_cases hv : rd m (i : Int) ≥ v
    · have : i = i0 := by
        by_cases e : i = i0
        · exact e
        · have := hi0.lt i (by omega); omega
      subst this
      rw [if_pos hv]
      unfold rchV
      rw [if_pos (by omega)]
    · rw [if_neg hv]
      refine ih (i + 1) k (by omega) ?_ (by omega)
      by_cases e : i = i0
      · subst e; have := hi0.ge (by omega); omega
      · omega
theorem rreach_f (m : List Int) (t v : Int) (h1 : 1 ≤ m.length) (h2 : m.length ≤ 4096) (i0 : Nat) (hi0 : IsFst m v i0) (ht : i0 < m.length ∨ t ≠ 0) (k : Nat) (hk : 4100 ≤ k) : standbyref55_reach.f k m t v = some (rchV m t v i0) := by
  unfold standbyref55_reach.f
  exact rreach_l0 m t v h1 h2 i0 hi0 ht m.length 0 k (by omega) (by omega) (by omega)
theorem half (a b : Nat) (h : a + b ≤ 100000) : wrap64 ((IntKind.u64.wrap (wrap64 ((a : Int) + (b : Int)))) / 2) = (((a + b) / 2 : Nat) : Int) := by
  rw [w64 ((a : Int) + (b : Int)) (by omega) (by omega)]
  have e : IntKind.u64.wrap ((a : Int) + (b : Int)) = (a : Int) + (b : Int) := by
    simp [IntKind.wrap, IntKind.bits, IntKind.signed]
    omega
  rw [e, w64 _ (by omega) (by omega)]
  omega
theorem less_f (x y : Int) : cmp_Less_int.f x y = some (decide (x < y)) := by simp [cmp_Less_int.f, cmp_isNaN_int.f]
theorem bs_l0 (m : List Int) (v : Int) (h2 : m.length ≤ 4096) (hs : Srt m) (i0 : Nat) (hi0 : IsFst m v i0) : ∀ d lo hi k : Nat, hi - lo ≤ d → lo ≤ i0 → i0 ≤ hi → hi ≤ m.length → d + 1 ≤ k → ∃ b, slices_BinarySearch_int_int.l0 k m v (m.length : Int) (lo : Int) (hi : Int) = some ((i0 : Int), b) := by
  intro d
  induction d with
  | zero =>
    intro lo hi k hd hlo hhi hle hk
    obtain ⟨k, rfl⟩ : ∃ k', k = k' + 1 := ⟨k - 1, by omega⟩
    obtain rfl : lo = i0 := by omega
    obtain rfl : hi = lo := by omega
    simp only [slices_BinarySearch_int_int.l0]
    rw [if_neg (by omega)]
    by_cases hm : (hi : Int) < (m.length : Int)
    · rw [if_pos hm, if_pos (by omega), if_pos hm]
      by_cases he : rd m (hi : Int) = v
      · rw [if_pos he]; exact ⟨true, rfl⟩
      · rw [if_neg he]; simp [slices_isNaN_int.f]
    · rw [if_neg hm]; exact ⟨false, rfl⟩
  | succ d ih =>
    intro lo hi k hd hlo hhi hle hk
    by_cases hlt : lo < hi
    · obtain ⟨k, rfl⟩ : ∃ k', k = k' + 1 := ⟨k - 1, by omega⟩
      have eh := half lo hi (by omega)
      simp only [slices_BinarySearch_int_int.l0, eh]
      rw [if_pos (by omega), if_pos (by omega), if_pos (by omega)]
      have e4 : wrap64 ((((lo + hi) / 2 : Nat) : Int) + 1) = (((lo + hi) / 2 + 1 : Nat) : Int) := by rw [w64 _ (by omega) (by omega)]; omega
      rw [e4]
      by_cases hc : (lo + hi) / 2 < i0
      · have h3 := hi0.lt _ hc
        obtain ⟨b, hb⟩ := ih ((lo + hi) / 2 + 1) hi k (by omega) (by omega) (by omega) (by omega) (by omega)
        exact ⟨b, by rw [less_f, Option.bind_some, decide_eq_true h3, if_pos rfl]; exact hb⟩
      · have h3 : ¬ rd m (((lo + hi) / 2 : Nat) : Int) < v := by
          have h4 := hi0.ge (by omega)
          have h5 := srt_le hs i0 ((lo + hi) / 2) (by omega) (by omega)
          omega
        obtain ⟨b, hb⟩ := ih lo ((lo + hi) / 2) k (by omega) (by omega) (by omega) (by omega) (by omega)
        exact ⟨b, by rw [less_f, Option.bind_some, decide_eq_false h3, if_neg (by decide)]; exact hb⟩
    · exact ih lo hi k (by omega) hlo hhi hle (by omega)
theorem reach_f (m : List Int) (t v : Int) (h1 : 1 ≤ m.length) (h2 : m.length ≤ 4096) (hs : Srt m) (i0 : Nat) (hi0 : IsFst m v i0) (ht : i0 < m.length ∨ t ≠ 0) (k : Nat) (hk : 4100 ≤ k) : curve_curve_reach.f k m t v = some (rchV m t v i0) := by
  have := hi0.le
  unfold curve_curve_reach.f slices_BinarySearch_int_int.f
  obtain ⟨b, hb⟩ := bs_l0 m v h2 hs i0 hi0 m.length 0 m.length k (by omega) (by omega) (by omega) (by omega) (by omega)
  have hb' : slices_BinarySearch_int_int.l0 k m v (m.length : Int) 0 (m.length : Int) = some ((i0 : Int), b) := hb
  rw [hb', Option.bind_some]
  unfold rchV
  by_cases hi : i0 < m.length
  · rw [if_pos (by omega), if_pos hi]
  · rw [if_neg (by omega), if_neg hi, if_pos (by rw [w64 _ (by omega) (by omega)]; omega), if_pos (by rw [w64 _ (by omega) (by omega)]; omega), if_neg (ht.resolve_left hi)]
noncomputable def fstI (m : List Int) (v : Int) : Nat := Classical.choose (exists_fst m v)
theorem fstI_spec (m : List Int) (v : Int) : IsFst m v (fstI m v) := Classical.choose_spec (exists_fst m v)
noncomputable def dlyV (l : List Int) (s : Int) (m : List Int) (t : Int) (x : Int) : Int := wrap64 (rchV m t (cv l s x) (fstI m (cv l s x)) - x)
def blgV (l : List Int) (s : Int) (m : List Int) (t : Int) (x : Int) : Int := wrap64 (cv l s x - cv m t x)
section
variable {l : List Int} {s : Int} {m : List Int} {t : Int} (hl : CurOk l s) (hm : CurOk m t)
include hl hm
theorem backF_f (i : Nat) (hi : i < max l.length m.length) : backF l s m t (i : Int) = some (blgV l s m t (i : Int)) := by
  have h1 := hl.h2; have h2 := hm.h2
  unfold backF blgV
  rw [at_f hl _ (by omega) (by omega), at_f hm _ (by omega) (by omega)]; rfl
theorem rback_l0 : ∀ d i k : Nat, i + d = max l.length m.length → d + 1 ≤ k → standbyref55_Backlog.l0 k (grF (blgV l s m t) i) (i : Int) l s m t = some (grF (blgV l s m t) (max l.length m.length), 0) := by
  have h1 := hl.h2; have h2 := hm.h2
  intro d
  induction d with
  | zero =>
    intro i k hi hk
    obtain ⟨k, rfl⟩ : ∃ k', k = k' + 1 := ⟨k - 1, by omega⟩
    simp only [standbyref55_Backlog.l0]
    rw [mx_len, if_neg (by omega), show i = max l.length m.length from by omega]
  | succ d ih =>
    intro i k hi hk
    obtain ⟨k, rfl⟩ : ∃ k', k = k' + 1 := ⟨k - 1, by omega⟩
    have e3 : wrap64 ((i : Int) + 1) = ((i + 1 : Nat) : Int) := by rw [w64 _ (by omega) (by omega)]; omega
    simp only [standbyref55_Backlog.l0, e3]
    rw [mx_len, if_pos (by omega), value_f hl _ (by omega) (by omega), value_f hm _ (by omega) (by omega), Option.bind_some, Option.bind_some]
    have h := ih (i + 1) k (by omega) (by omega)
    rw [grF_succ] at h
    exact h
theorem reached (hst : s ≤ t) (hz : t = 0 → rd l ((l.length : Int) - 1) ≤ rd m ((m.length : Int) - 1)) (i : Nat) (hi : i < max l.length m.length) : fstI m (cv l s (i : Int)) < m.length ∨ t ≠ 0 := by
  have h1 := hl.h1; have h2 := hl.h2; have h3 := hm.h1; have h4 := hm.h2; have hs := hl.s
  unfold TimeOk at hs
  by_cases ht : t = 0
  · left
    have hF := fstI_spec m (cv l s (i : Int))
    have hle : cv l s (i : Int) ≤ rd l ((l.length : Int) - 1) := by
      unfold cv
      by_cases hlt : (i : Int) < (l.length : Int)
      · rw [if_pos hlt]
        have := srt_le hl.up i (l.length - 1) (by omega) (by omega)
        rw [show ((l.length - 1 : Nat) : Int) = (l.length : Int) - 1 from by omega] at this
        exact this
      · rw [if_neg hlt, show s = 0 from by omega, Int.mul_zero]; omega
    have hz2 := hz ht
    by_cases hlt : fstI m (cv l s (i : Int)) < m.length
    · exact hlt
    · have := hF.lt (m.length - 1) (by omega)
      rw [show ((m.length - 1 : Nat) : Int) = (m.length : Int) - 1 from by omega] at this
      omega
  · exact Or.inr ht
theorem delayF_f (k : Nat) (hk : 5000 ≤ k) (hst : s ≤ t) (hz : t = 0 → rd l ((l.length : Int) - 1) ≤ rd m ((m.length : Int) - 1)) (i : Nat) (hi : i < max l.length m.length) : delayF k l s m t (i : Int) = some (dlyV l s m t (i : Int)) := by
  have h1 := hl.h2; have h2 := hm.h2
  unfold delayF dlyV
  rw [at_f hl _ (by omega) (by omega), Option.bind_some, reach_f m t _ hm.h1 hm.h2 hm.up _ (fstI_spec m _) (reached hl hm hst hz i hi) k (by omega)]; rfl
theorem rdelay_l0 (hst : s ≤ t) (hz : t = 0 → rd l ((l.length : Int) - 1) ≤ rd m ((m.length : Int) - 1)) : ∀ d i k : Nat, i + d = max l.length m.length → d + 5000 ≤ k → standbyref55_Delay.l0 k (grF (dlyV l s m t) i) (i : Int) l s m t = some (grF (dlyV l s m t) (max l.length m.length), 0) := by
  have h1 := hl.h2; have h2 := hm.h2
  intro d
  induction d with
  | zero =>
    intro i k hi hk
    obtain ⟨k, rfl⟩ : ∃ k', k = k' + 1 := ⟨k - 1, by omega⟩
    simp only [standbyref55_Delay.l0]
    rw [mx_len, if_neg (by omega), show i = max l.length m.length from by omega]
  | succ d ih =>
    intro i k hi hk
    obtain ⟨k, rfl⟩ : ∃ k', k = k' + 1 := ⟨k - 1, by omega⟩
    have e3 : wrap64 ((i : Int) + 1) = ((i + 1 : Nat) : Int) := by rw [w64 _ (by omega) (by omega)]; omega
    simp only [standbyref55_Delay.l0, e3]
    rw [mx_len, if_pos (by omega), value_f hl _ (by omega) (by omega), Option.bind_some, rreach_f m t _ hm.h1 hm.h2 _ (fstI_spec m _) (reached hl hm hst hz i (by omega)) k (by omega), Option.bind_some]
    have h := ih (i + 1) k (by omega) (by omega)
    rw [grF_succ] at h
    exact h
end
theorem backlog_alike (l : List Int) (s : Int) (m : List Int) (t : Int) (k : Nat) (hk : 20000 ≤ k) : ∃ r, curve_Backlog.f k l s m t = some r ∧ standbyref55_Backlog.f k l s m t = some r := by
  unfold curve_Backlog.f standbyref55_Backlog.f
  rw [check_f l s k (by omega), check_f m t k (by omega), rpair_f l s m t k (by omega)]
  simp only [Option.bind_some]
  by_cases h1 : chkC l s = 0
  · rw [if_pos h1, if_pos h1]
    by_cases h2 : chkC m t = 0
    · rw [if_pos h2, if_pos h2]
      have hl := chk_zero h1
      have hm := chk_zero h2
      by_cases h3 : s > t
      · rw [if_pos h3, if_pos h3]; exact ⟨_, rfl, rfl⟩
      · rw [if_neg h3, if_neg h3, greatest_f _ (blgV l s m t) l s m t hl.h2 hm.h2 (fun i hi => backF_f hl hm i hi) k (by omega)]
        exact ⟨_, rfl, rback_l0 hl hm (max l.length m.length) 0 k (by omega) (by have := hl.h2; have := hm.h2; omega)⟩
    · rw [if_neg h2, if_neg h2]
      exact ⟨_, rfl, rfl⟩
  · rw [if_neg h1, if_neg h1, if_neg h1]
    exact ⟨_, rfl, rfl⟩
theorem delay_alike (l : List Int) (s : Int) (m : List Int) (t : Int) (k : Nat) (hk : 20000 ≤ k) : ∃ r, curve_Delay.f k l s m t = some r ∧ standbyref55_Delay.f k l s m t = some r := by
  obtain ⟨k1, hk1⟩ : ∃ k1, k = k1 + 1 := ⟨k - 1, by omega⟩
  unfold curve_Delay.f standbyref55_Delay.f
  rw [check_f l s k (by omega), check_f m t k (by omega), rpair_f l s m t k (by omega)]
  simp only [Option.bind_some]
  by_cases h1 : chkC l s = 0
  · rw [if_pos h1, if_pos h1]
    by_cases h2 : chkC m t = 0
    · rw [if_pos h2, if_pos h2]
      have hl := chk_zero h1
      have hm := chk_zero h2
      have g1 := hl.h1; have g2 := hl.h2; have g3 := hm.h1; have g4 := hm.h2
      by_cases h3 : s > t
      · rw [if_pos h3, if_pos h3, hk1]; exact ⟨_, rfl, by simp [standbyref55_Delay.j0]⟩
      · rw [if_neg h3, if_neg h3]
        have fin : ∀ hz : t = 0 → rd l ((l.length : Int) - 1) ≤ rd m ((m.length : Int) - 1), ∃ r, ((curve_greatest.f k l s m t (delayF k l s m t)).bind fun r => some (r, (0 : Int))) = some r ∧ standbyref55_Delay.j0 k false l s m t = some r := by
          intro hz
          rw [greatest_f _ (dlyV l s m t) l s m t hl.h2 hm.h2 (fun i hi => delayF_f hl hm k (by omega) (by omega) hz i hi) k (by omega)]
          refine ⟨_, rfl, ?_⟩
          rw [hk1]
          simp only [standbyref55_Delay.j0]
          rw [if_neg (by simp)]
          exact rdelay_l0 hl hm (by omega) hz (max l.length m.length) 0 k1 (by omega) (by omega)
        by_cases h4 : t = 0
        · rw [if_pos h4, if_pos h4, if_pos (And.intro g1 g3), w64 ((l.length : Int) - 1) (by omega) (by omega), w64 ((m.length : Int) - 1) (by omega) (by omega), if_pos (c := 0 ≤ (l.length : Int) - 1) (by omega), if_pos (c := (l.length : Int) - 1 < (l.length : Int)) (by omega), if_pos (c := 0 ≤ (m.length : Int) - 1) (by omega), if_pos (c := (m.length : Int) - 1 < (m.length : Int)) (by omega)]
          by_cases h5 : rd l ((l.length : Int) - 1) > rd m ((m.length : Int) - 1)
          · rw [if_pos h5, decide_eq_true h5, hk1]; exact ⟨_, rfl, by simp [standbyref55_Delay.j0]⟩
          · rw [if_neg h5, decide_eq_false h5]
            exact fin (fun _ => by omega)
        · rw [if_neg h4, if_neg h4]
          exact fin (fun h => absurd h h4)
    · rw [if_neg h2, if_neg h2]
      exact ⟨_, rfl, rfl⟩
  · rw [if_neg h1, if_neg h1, if_neg h1]
    exact ⟨_, rfl, rfl⟩
end Go.Proofs.Ytanlonngekgibaa.Pr

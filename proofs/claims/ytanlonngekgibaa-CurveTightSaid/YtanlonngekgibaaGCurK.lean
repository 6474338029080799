/- Both checks of a curve answer alike; the values of a curve. -/
import Derived.Test.YtanlonngekgibaaGSums
import Derived.Test.YtanlonngekgibaaF16
import Derived.Test.YtanlonngekgibaaF17
import Derived.Test.YtanlonngekgibaaF51
import Derived.Test.YtanlonngekgibaaF45
import Derived.Test.YtanlonngekgibaaF52
import Derived.Test.YtanlonngekgibaaF47
import Derived.Test.YtanlonngekgibaaF44
import Derived.Test.YtanlonngekgibaaF20
namespace Go.Proofs.Ytanlonngekgibaa.Pr
open Go.RowKit Go.Proofs.YtanlonngekgibaaW.PrintWords Go.Proofs.YtanlonngekgibaaW.PrintLast Go.Proofs.YtanlonngekgibaaW.PrintMore
set_option linter.unusedVariables false
set_option linter.unusedSimpArgs false
theorem w64 (x : Int) (h0 : -9223372036854775808 ≤ x) (h1 : x ≤ 9223372036854775807) : wrap64 x = x := by unfold wrap64; omega
def Srt (l : List Int) : Prop := ∀ i : Nat, i + 1 < l.length → rd l (i : Int) ≤ rd l ((i : Int) + 1)
open Classical in
noncomputable def chkC (l : List Int) (s : Int) : Int := if l.length < 1 ∨ 4096 < l.length then 6 else if (∃ x ∈ l, ¬ TimeOk x) ∨ ¬ TimeOk s then 2 else if Srt l then 0 else 3
open Classical in
theorem sorted_l0 (l : List Int) (hl : l.length ≤ 4096) : ∀ i k : Nat, i < l.length → i + 1 ≤ k → (∀ j : Nat, i ≤ j → j + 1 < l.length → rd l (j : Int) ≤ rd l ((j : Int) + 1)) → slices_IsSorted_int_int.l0 k l (i : Int) = some (decide (Srt l)) := by
  intro i
  induction i with
  | zero =>
    intro k hi hk h
    obtain ⟨k, rfl⟩ : ∃ k', k = k' + 1 := ⟨k - 1, by omega⟩
    have hS : Srt l := fun j hj => h j (Nat.zero_le _) hj
    simp only [slices_IsSorted_int_int.l0]
    rw [if_neg (by simp), decide_eq_true hS]
  | succ i ih =>
    intro k hi hk h
    obtain ⟨k, rfl⟩ : ∃ k', k = k' + 1 := ⟨k - 1, by omega⟩
    have e : wrap64 (((i + 1 : Nat) : Int) - 1) = (i : Int) := by rw [w64 _ (by omega) (by omega)]; omega
    have e2 : ((i + 1 : Nat) : Int) = (i : Int) + 1 := by omega
    simp only [slices_IsSorted_int_int.l0, e]
    rw [if_pos (by omega), if_pos (by omega), if_pos (by omega), if_pos (by omega), if_pos (by omega)]
    simp only [cmp_Less_int.f, e2]
    by_cases hlt : rd l ((i : Int) + 1) < rd l (i : Int)
    · have hS : ¬ Srt l := fun h2 => absurd (h2 i (by omega)) (by omega)
      simp [hlt, hS, cmp_isNaN_int.f]
    · have := ih k (by omega) (by omega) (fun j hj hj2 => by
        by_cases hji : j = i
        · subst hji; omega
        · exact h j (by omega) hj2)
      simp [hlt, this, cmp_isNaN_int.f]
theorem isSorted_f (l : List Int) (h1 : 1 ≤ l.length) (hl : l.length ≤ 4096) (k : Nat) (hk : l.length ≤ k) : (open Classical in slices_IsSorted_int_int.f k l = some (decide (Srt l))) := by
  unfold slices_IsSorted_int_int.f
  have e : wrap64 ((l.length : Int) - 1) = ((l.length - 1 : Nat) : Int) := by rw [w64 _ (by omega) (by omega)]; omega
  rw [e]
  exact sorted_l0 l hl (l.length - 1) k (by omega) (by omega) (fun j hj hj2 => by omega)
theorem time_cases (x : Int) : curve_time.f x = some (decide (TimeOk x)) := by
  unfold curve_time.f
  by_cases h0 : x ≥ 0
  · rw [if_pos h0]; congr 1; simp [TimeOk, h0]
  · rw [if_neg h0]; congr 1; symm; simp [TimeOk]; omega
theorem rtime_cases (x : Int) : standbyref55_time.f x = some (decide (TimeOk x)) := by
  unfold standbyref55_time.f
  by_cases h0 : x ≥ 0
  · rw [if_pos h0]; congr 1; simp [TimeOk, h0]
  · rw [if_neg h0]; congr 1; symm; simp [TimeOk]; omega
theorem any_time (l : List Int) : (l.any fun x => !decide (0 ≤ x) || !decide (x ≤ 1073741824)) = decide (∃ x ∈ l, ¬ TimeOk x) := by
  rw [Bool.eq_iff_iff, List.any_eq_true, decide_eq_true_iff]
  constructor
  · rintro ⟨x, hx, h⟩; exact ⟨x, hx, fun ⟨a, b⟩ => by simp [a, b] at h⟩
  · rintro ⟨x, hx, h⟩
    refine ⟨x, hx, ?_⟩
    simp only [TimeOk] at h
    by_cases a : 0 ≤ x
    · simp [a]; omega
    · simp [a]
theorem check_j1 (l : List Int) (s : Int) (h1 : 1 ≤ l.length) (hl : l.length ≤ 4096) (k : Nat) (hk : l.length + 1 ≤ k) (b : Bool) : (open Classical in curve_Check.j1 k b l s = some (if b = true then 2 else if Srt l then 0 else 3)) := by
  obtain ⟨k, rfl⟩ : ∃ k', k = k' + 1 := ⟨k - 1, by omega⟩
  simp only [curve_Check.j1]
  cases b
  · rw [if_neg (by simp), if_neg (by simp), isSorted_f l h1 hl k (by omega)]
    by_cases h : Srt l <;> simp [h]
  · simp
theorem check_f (l : List Int) (s : Int) (k : Nat) (hk : 5000 ≤ k) : curve_Check.f k l s = some (chkC l s) := by
  obtain ⟨k, rfl⟩ : ∃ k', k = k' + 1 := ⟨k - 1, by omega⟩
  unfold curve_Check.f chkC
  by_cases h1 : (l.length : Int) < 1
  · rw [if_pos h1, if_pos (Or.inl (by omega))]; simp [curve_Check.j0]
  rw [if_neg h1]
  by_cases h2 : (l.length : Int) > 4096
  · rw [if_pos (Or.inr (by omega))]; simp [curve_Check.j0, h2]
  rw [if_neg (by omega), decide_eq_false h2]
  simp only [curve_Check.j0, cf_Check1.f, Option.bind_some, any_time, time_cases]
  rw [if_neg (by simp), check_j1 l s (by omega) (by omega) k (by omega), check_j1 l s (by omega) (by omega) k (by omega)]
  by_cases h3 : ∃ x ∈ l, ¬ TimeOk x
  · rw [if_pos (decide_eq_true h3), if_pos (decide_eq_true h3), if_pos (Or.inl h3)]
  · rw [if_neg (by rw [decide_eq_false h3]; simp)]
    by_cases h4 : TimeOk s
    · rw [decide_eq_true h4, if_neg (by simp), if_neg (c := _ ∨ _) (by intro h; cases h with | inl a => exact h3 a | inr a => exact a h4)]
    · rw [decide_eq_false h4, if_pos (by simp), if_pos (Or.inr h4)]
theorem rcheck_l1 (l : List Int) (s : Int) (hl : l.length ≤ 4096) : ∀ m i k : Nat, i + m = l.length → 1 ≤ i → m + 1 ≤ k → (∀ j : Nat, j + 1 < i → rd l (j : Int) ≤ rd l ((j : Int) + 1)) → (open Classical in standbyref55_Check.l1 k (i : Int) l s = some (if Srt l then 0 else 3)) := by
  intro m
  induction m with
  | zero =>
    intro i k hi h1 hk h
    obtain ⟨k, rfl⟩ : ∃ k', k = k' + 1 := ⟨k - 1, by omega⟩
    have hS : Srt l := fun j hj => h j (by omega)
    simp only [standbyref55_Check.l1]
    rw [if_neg (by omega), if_pos hS]
  | succ m ih =>
    intro i k hi h1 hk h
    obtain ⟨k, rfl⟩ : ∃ k', k = k' + 1 := ⟨k - 1, by omega⟩
    obtain ⟨i, rfl⟩ : ∃ i', i = i' + 1 := ⟨i - 1, by omega⟩
    have e : wrap64 (((i + 1 : Nat) : Int) - 1) = (i : Int) := by rw [w64 _ (by omega) (by omega)]; omega
    have e2 : ((i + 1 : Nat) : Int) = (i : Int) + 1 := by omega
    have e3 : wrap64 (((i + 1 : Nat) : Int) + 1) = ((i + 1 + 1 : Nat) : Int) := by rw [w64 _ (by omega) (by omega)]; omega
    simp only [standbyref55_Check.l1, e, e3]
    rw [if_pos (by omega), if_pos (by omega), if_pos (by omega), if_pos (by omega)]
    by_cases hlt : rd l ((i : Int) + 1) < rd l (i : Int)
    · have hS : ¬ Srt l := fun h2 => absurd (h2 i (by omega)) (by omega)
      rw [e2, if_pos hlt, if_neg hS]
    · rw [e2, if_neg hlt]
      exact ih (i + 1 + 1) k (by omega) (by omega) (by omega) (fun j hj => by
        by_cases hji : j = i
        · subst hji; omega
        · exact h j (by omega))
theorem rcheck_l0 (l : List Int) (s : Int) (h1 : 1 ≤ l.length) (hl : l.length ≤ 4096) : ∀ m i k : Nat, i + m = l.length → m + l.length + 3 ≤ k → (∀ x ∈ l.take i, TimeOk x) → (open Classical in standbyref55_Check.l0 k (i : Int) l s = some (if (∃ x ∈ l, ¬ TimeOk x) ∨ ¬ TimeOk s then 2 else if Srt l then 0 else 3)) := by
  intro m
  induction m with
  | zero =>
    intro i k hi hk h
    obtain ⟨k, rfl⟩ : ∃ k', k = k' + 1 := ⟨k - 1, by omega⟩
    rw [List.take_of_length_le (by omega)] at h
    have hn : ¬ ∃ x ∈ l, ¬ TimeOk x := fun ⟨x, hx, h2⟩ => h2 (h x hx)
    simp only [standbyref55_Check.l0, rtime_cases, Option.bind_some]
    rw [if_neg (by omega)]
    by_cases h4 : TimeOk s
    · rw [decide_eq_true h4, if_pos rfl, if_neg (c := _ ∨ _) (by intro h; cases h with | inl a => exact hn a | inr a => exact a h4)]
      exact rcheck_l1 l s hl (l.length - 1) 1 k (by omega) (by omega) (by omega) (fun j hj => by omega)
    · rw [decide_eq_false h4, if_neg (by simp), if_pos (Or.inr h4)]
  | succ m ih =>
    intro i k hi hk h
    obtain ⟨k, rfl⟩ : ∃ k', k = k' + 1 := ⟨k - 1, by omega⟩
    have e3 : wrap64 ((i : Int) + 1) = ((i + 1 : Nat) : Int) := by rw [w64 _ (by omega) (by omega)]; omega
    simp only [standbyref55_Check.l0, rtime_cases, Option.bind_some, e3]
    rw [if_pos (by omega), if_pos (by omega)]
    by_cases h4 : TimeOk (rd l (i : Int))
    · rw [decide_eq_true h4, if_pos rfl]
      refine ih (i + 1) k (by omega) (by omega) (fun x hx => ?_)
      rw [take_rd l i (by omega), List.mem_append, List.mem_singleton] at hx
      rcases hx with hx | hx
      · exact h x hx
      · rw [hx]; exact h4
    · rw [decide_eq_false h4, if_neg (by simp), if_pos (Or.inl ⟨_, rd_mem l (i : Int) (by omega) (by omega), h4⟩)]
theorem rcheck_f (l : List Int) (s : Int) (k : Nat) (hk : 9000 ≤ k) : standbyref55_Check.f k l s = some (chkC l s) := by
  obtain ⟨k, rfl⟩ : ∃ k', k = k' + 1 := ⟨k - 1, by omega⟩
  unfold standbyref55_Check.f chkC
  by_cases h1 : (l.length : Int) < 1
  · rw [if_pos h1, if_pos (Or.inl (by omega))]; simp [standbyref55_Check.j0]
  rw [if_neg h1]
  by_cases h2 : (l.length : Int) > 4096
  · rw [if_pos (Or.inr (by omega))]; simp [standbyref55_Check.j0, h2]
  rw [if_neg (by omega), decide_eq_false h2]
  simp only [standbyref55_Check.j0]
  rw [if_neg (by simp)]
  exact rcheck_l0 l s (by omega) (by omega) l.length 0 k (by omega) (by omega) (by simp)
theorem rpair_f (l : List Int) (s : Int) (m : List Int) (t : Int) (k : Nat) (hk : 9000 ≤ k) : standbyref55_pair.f k l s m t = some (if chkC l s = 0 then chkC m t else chkC l s) := by
  unfold standbyref55_pair.f
  rw [rcheck_f l s k hk, rcheck_f m t k hk]
  by_cases h : chkC l s = 0 <;> simp [h]
/-- A correct curve. -/
structure CurOk (l : List Int) (s : Int) : Prop where
  h1 : 1 ≤ l.length
  h2 : l.length ≤ 4096
  t : ∀ x ∈ l, TimeOk x
  s : TimeOk s
  up : Srt l
theorem chk_zero {l : List Int} {s : Int} (h : chkC l s = 0) : CurOk l s := by
  unfold chkC at h
  split at h
  · omega
  · split at h
    · omega
    · split at h
      · rename_i a b c
        exact ⟨by omega, by omega, fun x hx => Decidable.byContradiction fun hn => b (Or.inl ⟨x, hx, hn⟩), Decidable.byContradiction fun hn => b (Or.inr hn), c⟩
      · omega
/-- The value of a correct curve. -/
def cv (l : List Int) (s t : Int) : Int := if t < (l.length : Int) then rd l t else rd l ((l.length : Int) - 1) + (t - (l.length : Int) + 1) * s
theorem cv_bd {l : List Int} {s : Int} (h : CurOk l s) (t : Int) (h0 : 0 ≤ t) (h1 : t ≤ 1073741824) : 0 ≤ cv l s t ∧ cv l s t ≤ 1152921505680588800 ∧ (t ≤ 20000 → cv l s t ≤ 21475910221824) := by
  have hs := h.s
  have hl := h.h1
  unfold TimeOk at hs
  unfold cv
  by_cases hlt : t < (l.length : Int)
  · have := h.t _ (rd_mem l t h0 hlt)
    unfold TimeOk at this
    rw [if_pos hlt]; omega
  · have hb := h.t _ (rd_mem l ((l.length : Int) - 1) (by omega) (by omega))
    unfold TimeOk at hb
    rw [if_neg hlt]
    have hu0 : 0 ≤ t - (l.length : Int) + 1 := by omega
    have hu1 : t - (l.length : Int) + 1 ≤ 1073741824 := by omega
    have p0 : 0 ≤ (t - (l.length : Int) + 1) * s := Int.mul_nonneg hu0 hs.1
    have p1 : (t - (l.length : Int) + 1) * s ≤ 1073741824 * 1073741824 := Int.mul_le_mul hu1 hs.2 hs.1 (by decide)
    refine ⟨by omega, by omega, fun ht => ?_⟩
    have p2 : (t - (l.length : Int) + 1) * s ≤ 20000 * 1073741824 := Int.mul_le_mul (by omega) hs.2 hs.1 (by decide)
    omega
theorem at_f {l : List Int} {s : Int} (h : CurOk l s) (t : Int) (h0 : 0 ≤ t) (h1 : t ≤ 1073741824) : curve_curve_at.f l s t = some (cv l s t) := by
  have hs := h.s
  have hl := h.h1
  have hl2 := h.h2
  have hb := (cv_bd h t h0 h1)
  unfold curve_curve_at.f
  unfold cv at hb ⊢
  by_cases hlt : t < (l.length : Int)
  · rw [if_pos hlt, if_pos h0, if_pos hlt]
  · rw [if_neg hlt] at hb
    rw [if_neg hlt, if_neg hlt, w64 ((l.length : Int) - 1) (by omega) (by omega), if_pos (by omega), if_pos (by omega)]
    unfold curve_line_at.f
    have hbb := h.t _ (rd_mem l ((l.length : Int) - 1) (by omega) (by omega))
    unfold TimeOk at hbb hs
    rw [Option.bind_some, w64 (t - (l.length : Int)) (by omega) (by omega), w64 (t - (l.length : Int) + 1) (by omega) (by omega), w64 ((t - (l.length : Int) + 1) * s) (by omega) (by omega), w64 _ (by omega) (by omega)]
theorem value_at (l : List Int) (s t : Int) : standbyref55_value.f l s t = curve_curve_at.f l s t := by
  unfold standbyref55_value.f curve_curve_at.f curve_line_at.f
  simp only [Option.bind_some]
theorem value_f {l : List Int} {s : Int} (h : CurOk l s) (t : Int) (h0 : 0 ≤ t) (h1 : t ≤ 1073741824) : standbyref55_value.f l s t = some (cv l s t) := by rw [value_at]; exact at_f h t h0 h1
theorem wr_eq (a b c : Int) : wrap64 (wrap64 (wrap64 (wrap64 a + b) - c) - 1) = wrap64 (wrap64 (wrap64 a + wrap64 (b - c)) - 1) := by unfold wrap64; omega
theorem crossing_alike (a b c d : Int) : standbyref55_crossing.f a b c d = curve_crossing.f a b c d := by
  unfold standbyref55_crossing.f curve_crossing.f
  simp only [wr_eq]
theorem crossing_f (a b c d : Int) (ha : 0 ≤ a ∧ a ≤ 1152921504606846976) (hc : 0 ≤ c ∧ c ≤ 1152921504606846976) (hb : TimeOk b) (hd : TimeOk d) : ∃ r, curve_crossing.f a b c d = some r ∧ 0 ≤ r ∧ r ≤ 1152921506000000000 := by
  unfold TimeOk at hb hd
  have key : ∀ x y : Int, 0 ≤ x → x ≤ 1152921504606846976 → 1 ≤ y → y ≤ 1073741824 → 0 ≤ wrap64 (Int.tdiv (wrap64 (wrap64 (wrap64 x + wrap64 y) - 1)) (wrap64 y)) ∧ wrap64 (Int.tdiv (wrap64 (wrap64 (wrap64 x + wrap64 y) - 1)) (wrap64 y)) ≤ 1152921506000000000 := by
    intro x y h0 h1 h2 h3
    rw [w64 x (by omega) (by omega), w64 y (by omega) (by omega), w64 (x + y) (by omega) (by omega), w64 (x + y - 1) (by omega) (by omega)]
    have q0 : 0 ≤ (x + y - 1).tdiv y := Int.tdiv_nonneg (by omega) (by omega)
    have q1 : (x + y - 1).tdiv y ≤ x + y - 1 := by
      rw [Int.tdiv_eq_ediv_of_nonneg (by omega)]
      exact Int.ediv_le_self _ (by omega)
    rw [w64 _ (by omega) (by omega)]
    omega
  unfold curve_crossing.f
  by_cases h1 : b = d
  · exact ⟨0, by rw [if_pos h1], by omega, by omega⟩
  rw [if_neg h1]
  by_cases h2 : b > d
  · rw [if_pos h2]
    by_cases h3 : c ≤ a
    · exact ⟨0, by rw [if_pos h3], by omega, by omega⟩
    rw [if_neg h3, if_neg (by rw [w64 _ (by omega) (by omega)]; omega)]
    exact ⟨_, rfl, key (c - a) (b - d) (by omega) (by omega) (by omega) (by omega)⟩
  · rw [if_neg h2]
    by_cases h3 : a ≤ c
    · exact ⟨0, by rw [if_pos h3], by omega, by omega⟩
    rw [if_neg h3, if_neg (by rw [w64 _ (by omega) (by omega)]; omega)]
    exact ⟨_, rfl, key (a - c) (d - b) (by omega) (by omega) (by omega) (by omega)⟩
theorem same_l0 (l : List Int) (s : Int) (hl : l.length ≤ 4096) : ∀ m i k : Nat, i + m = l.length → m + 1 ≤ k → standbyref55_Same.l0 k (i : Int) l s l s = some true := by
  intro m
  induction m with
  | zero =>
    intro i k hi hk
    obtain ⟨k, rfl⟩ : ∃ k', k = k' + 1 := ⟨k - 1, by omega⟩
    simp only [standbyref55_Same.l0]
    rw [if_neg (by omega)]
  | succ m ih =>
    intro i k hi hk
    obtain ⟨k, rfl⟩ : ∃ k', k = k' + 1 := ⟨k - 1, by omega⟩
    have e3 : wrap64 ((i : Int) + 1) = ((i + 1 : Nat) : Int) := by rw [w64 _ (by omega) (by omega)]; omega
    simp only [standbyref55_Same.l0, e3]
    rw [if_pos (by omega), if_pos (by omega), if_pos (by omega), if_pos trivial]
    exact ih (i + 1) k (by omega) (by omega)
theorem same_f (l : List Int) (s : Int) (hl : l.length ≤ 4096) (k : Nat) (hk : 4100 ≤ k) : standbyref55_Same.f k l s l s = some true := by
  obtain ⟨k, rfl⟩ : ∃ k', k = k' + 1 := ⟨k - 1, by omega⟩
  unfold standbyref55_Same.f
  rw [if_pos rfl]
  simp only [standbyref55_Same.j0]
  rw [if_neg (by simp)]
  exact same_l0 l s hl l.length 0 k (by omega) (by omega)
end Go.Proofs.Ytanlonngekgibaa.Pr

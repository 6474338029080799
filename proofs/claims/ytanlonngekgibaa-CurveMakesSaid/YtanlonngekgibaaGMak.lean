/- What the reference's curves of windows are: the same as the program's. -/
import Derived.Test.YtanlonngekgibaaGWinV
import Derived.Test.YtanlonngekgibaaF13
import Derived.Test.YtanlonngekgibaaF15
namespace Go.Proofs.Ytanlonngekgibaa.Pr
open Go.RowKit Go.Proofs.YtanlonngekgibaaW.PrintWords Go.Proofs.YtanlonngekgibaaW.PrintLast Go.Proofs.YtanlonngekgibaaW.PrintMore
set_option linter.unusedVariables false
set_option linter.unusedSimpArgs false
theorem wsum_fits {l : List Int} {slope : Int} (h : Sml l slope 1073741824) (a k : Nat) (hk : k ≤ 10000) : 0 ≤ wsum l slope a k ∧ wsum l slope a k ≤ 10737418240000 := by
  have := wsum_bd h a k
  omega
theorem windowB_l0 (l : List Int) (slope : Int) (h : Sml l slope 1073741824) (hl : l.length ≤ 4096) (a k0 : Nat) (ha : a ≤ 5000) (hk0 : k0 ≤ 5000) : ∀ d i k : Nat, i + d = k0 → d + 1 ≤ k → standbyref55_Window.l0 k l slope (a : Int) (k0 : Int) (wsum l slope a i) ((a + i : Nat) : Int) = some (wsum l slope a k0) := by
  intro d
  induction d with
  | zero =>
    intro i k hi hk
    obtain ⟨k, rfl⟩ : ∃ k', k = k' + 1 := ⟨k - 1, by omega⟩
    simp only [standbyref55_Window.l0]
    rw [w64 ((a : Int) + (k0 : Int)) (by omega) (by omega), if_neg (by omega), show i = k0 from by omega]
  | succ d ih =>
    intro i k hi hk
    obtain ⟨k, rfl⟩ : ∃ k', k = k' + 1 := ⟨k - 1, by omega⟩
    have b := wsum_fits h a i (by omega)
    have b2 := sq_bd h (a + i)
    have e3 : wrap64 (((a + i : Nat) : Int) + 1) = ((a + (i + 1) : Nat) : Int) := by rw [w64 _ (by omega) (by omega)]; omega
    have h2 := ih (i + 1) k (by omega) (by omega)
    simp only [wsum] at h2
    simp only [standbyref55_Window.l0, e3]
    rw [w64 ((a : Int) + (k0 : Int)) (by omega) (by omega), if_pos (by omega)]
    by_cases hlt : a + i < l.length
    · unfold sq at h2 b2
      rw [if_pos hlt] at h2 b2
      rw [if_pos (by omega), if_pos (by omega), w64 (wsum l slope a i + rd l ((a + i : Nat) : Int)) (by omega) (by omega)]
      exact h2
    · unfold sq at h2 b2
      rw [if_neg hlt] at h2 b2
      rw [if_neg (by omega), w64 (wsum l slope a i + slope) (by omega) (by omega)]
      exact h2
theorem windowB_f (l : List Int) (slope : Int) (h : Sml l slope 1073741824) (hl : l.length ≤ 4096) (a k0 : Nat) (ha : a ≤ 5000) (hk0 : k0 ≤ 5000) (k : Nat) (hk : k0 + 1 ≤ k) : standbyref55_Window.f k l slope (a : Int) (k0 : Int) = some (wsum l slope a k0) := by
  unfold standbyref55_Window.f
  exact windowB_l0 l slope h hl a k0 ha hk0 k0 0 k (by omega) (by omega)
open Classical in
/-- The number of a sequence's error. -/
noncomputable def seqE (l : List Int) (slope : Int) : Int := if 4096 ≤ l.length then 6 else if (∃ x ∈ l, ¬ TimeOk x) ∨ ¬ TimeOk l.sum ∨ ¬ TimeOk slope then 2 else 0
open Classical in
theorem seq_l0 (l : List Int) (slope : Int) (hl : l.length < 4096) : ∀ m i k : Nat, i + m = l.length → m + 1 ≤ k → (∀ x ∈ l.take i, TimeOk x) → standbyref55_sequence.l0 k l slope (l.take i).sum (i : Int) = some (if (∃ x ∈ l, ¬ TimeOk x) ∨ ¬ TimeOk l.sum ∨ ¬ TimeOk slope then 2 else 0) := by
  intro m
  induction m with
  | zero =>
    intro i k hi hk h
    obtain ⟨k, rfl⟩ : ∃ k', k = k' + 1 := ⟨k - 1, by omega⟩
    rw [List.take_of_length_le (by omega)] at h ⊢
    have hn : ¬ ∃ x ∈ l, ¬ TimeOk x := fun ⟨x, hx, h2⟩ => h2 (h x hx)
    simp only [standbyref55_sequence.l0, rtime_cases, Option.bind_some]
    rw [if_neg (by omega)]
    by_cases h4 : TimeOk l.sum
    · rw [decide_eq_true h4, if_pos rfl]
      by_cases h5 : TimeOk slope
      · rw [decide_eq_true h5, if_pos rfl, if_neg (fun e => e.elim hn (fun e => e.elim (fun e => e h4) (fun e => e h5)))]
      · rw [decide_eq_false h5, if_neg (by simp), if_pos (Or.inr (Or.inr h5))]
    · rw [decide_eq_false h4, if_neg (by simp), if_pos (Or.inr (Or.inl h4))]
  | succ m ih =>
    intro i k hi hk h
    obtain ⟨k, rfl⟩ : ∃ k', k = k' + 1 := ⟨k - 1, by omega⟩
    have e3 : wrap64 ((i : Int) + 1) = ((i + 1 : Nat) : Int) := by rw [w64 _ (by omega) (by omega)]; omega
    have hsum := sumT (l.take i) h
    rw [List.length_take, Nat.min_eq_left (by omega)] at hsum
    simp only [standbyref55_sequence.l0, rtime_cases, Option.bind_some, e3]
    rw [if_pos (by omega), if_pos (by omega)]
    by_cases h4 : TimeOk (rd l (i : Int))
    · have h4' := h4
      unfold TimeOk at h4'
      rw [decide_eq_true h4, if_pos rfl, w64 ((l.take i).sum + rd l (i : Int)) (by omega) (by omega)]
      have h2 := ih (i + 1) k (by omega) (by omega) (fun x hx => by
        rw [take_rd l i (by omega), List.mem_append, List.mem_singleton] at hx
        rcases hx with hx | hx
        · exact h x hx
        · rw [hx]; exact h4)
      rw [take_rd l i (by omega), List.sum_append, List.sum_singleton] at h2
      exact h2
    · rw [decide_eq_false h4, if_neg (by simp), if_pos (Or.inl ⟨_, rd_mem l (i : Int) (by omega) (by omega), h4⟩)]
theorem seq_f (l : List Int) (slope : Int) (k : Nat) (hk : l.length + 1 ≤ k) : standbyref55_sequence.f k l slope = some (seqE l slope) := by
  unfold standbyref55_sequence.f seqE
  by_cases h : (l.length : Int) ≥ 4096
  · rw [if_pos h, if_pos (by omega)]
  · rw [if_neg h, if_neg (by omega)]
    have := seq_l0 l slope (by omega) l.length 0 k (by omega) (by omega) (by simp)
    exact this
theorem seq_ok {l : List Int} {slope : Int} (h : seqE l slope = 0) : l.length < 4096 ∧ (∀ x ∈ l, TimeOk x) ∧ TimeOk l.sum ∧ TimeOk slope := by
  unfold seqE at h
  split at h
  · omega
  · split at h
    · omega
    · rename_i a b
      refine ⟨by omega, fun x hx => Decidable.byContradiction fun hn => b (Or.inl ⟨x, hx, hn⟩), Decidable.byContradiction fun hn => b (Or.inr (Or.inl hn)), Decidable.byContradiction fun hn => b (Or.inr (Or.inr hn))⟩
theorem winF_seq (bet : Int → Int → Int) (l : List Int) (slope : Int) (h : seqE l slope ≠ 0) : winF bet l slope = ([], 0, seqE l slope) := by
  unfold winF
  unfold seqE at h ⊢
  by_cases h1 : 4096 ≤ l.length
  · rw [if_pos h1, if_pos h1]
  rw [if_neg h1] at h ⊢
  rw [if_neg h1]
  by_cases h2 : ∃ x ∈ l, ¬ TimeOk x
  · rw [if_pos h2, if_pos (Or.inl h2)]
  rw [if_neg h2]
  by_cases h3 : ¬ TimeOk l.sum ∨ ¬ TimeOk slope
  · rw [if_pos h3, if_pos (Or.inr h3)]
  · rw [if_neg (fun e => e.elim h2 h3)] at h
    exact absurd rfl h
/-- The reference's best window: the one behind the sequence first. -/
def bestR (bet : Int → Int → Int) (l : List Int) (slope : Int) (k : Nat) : Nat → Int
  | 0 => wsum l slope l.length k
  | j + 1 => bet (bestR bet l slope k j) (wsum l slope j k)
theorem bestR_is {bet : Int → Int → Int} (hb : Bet bet) (l : List Int) (slope : Int) (k : Nat) : ∀ j : Nat, ∃ a : Nat, bestR bet l slope k j = wsum l slope a k := by
  intro j
  induction j with
  | zero => exact ⟨l.length, rfl⟩
  | succ j ih =>
    obtain ⟨a, ha⟩ := ih
    simp only [bestR]
    rcases hb.one (bestR bet l slope k j) (wsum l slope j k) with h | h
    · exact ⟨a, by rw [h, ha]⟩
    · exact ⟨j, h⟩
theorem vmx_l (a b : Int) : a ≤ mx a b := by unfold mx; split <;> omega
theorem vmx_r (a b : Int) : b ≤ mx a b := by unfold mx; split <;> omega
theorem vmn_l (a b : Int) : mn a b ≤ a := by unfold mn; split <;> omega
theorem vmn_r (a b : Int) : mn a b ≤ b := by unfold mn; split <;> omega
theorem vbw_mx (l : List Int) (slope : Int) (k : Nat) : ∀ j a : Nat, a ≤ j → wsum l slope a k ≤ bw mx l slope k j := by
  intro j
  induction j with
  | zero => intro a ha; obtain rfl : a = 0 := by omega
            exact Int.le_refl _
  | succ j ih =>
    intro a ha
    simp only [bw]
    by_cases e : a = j + 1
    · subst e; exact vmx_r _ _
    · exact Int.le_trans (ih a (by omega)) (vmx_l _ _)
theorem vbw_mn (l : List Int) (slope : Int) (k : Nat) : ∀ j a : Nat, a ≤ j → bw mn l slope k j ≤ wsum l slope a k := by
  intro j
  induction j with
  | zero => intro a ha; obtain rfl : a = 0 := by omega
            exact Int.le_refl _
  | succ j ih =>
    intro a ha
    simp only [bw]
    by_cases e : a = j + 1
    · subst e; exact vmn_r _ _
    · exact Int.le_trans (vmn_l _ _) (ih a (by omega))
theorem vR_mx (l : List Int) (slope : Int) (k : Nat) : ∀ j a : Nat, (a < j ∨ a = l.length) → wsum l slope a k ≤ bestR mx l slope k j := by
  intro j
  induction j with
  | zero =>
    intro a ha
    obtain rfl : a = l.length := by omega
    exact Int.le_refl _
  | succ j ih =>
    intro a ha
    simp only [bestR]
    by_cases e : a = j
    · subst e; exact vmx_r _ _
    · exact Int.le_trans (ih a (by omega)) (vmx_l _ _)
theorem vR_mn (l : List Int) (slope : Int) (k : Nat) : ∀ j a : Nat, (a < j ∨ a = l.length) → bestR mn l slope k j ≤ wsum l slope a k := by
  intro j
  induction j with
  | zero =>
    intro a ha
    obtain rfl : a = l.length := by omega
    exact Int.le_refl _
  | succ j ih =>
    intro a ha
    simp only [bestR]
    by_cases e : a = j
    · subst e; exact vmn_r _ _
    · exact Int.le_trans (vmn_l _ _) (ih a (by omega))
theorem near (l : List Int) (slope : Int) (k a : Nat) : ∃ b : Nat, b ≤ l.length ∧ wsum l slope a k = wsum l slope b k := by
  by_cases h : a ≤ l.length
  · exact ⟨a, h, rfl⟩
  · exact ⟨l.length, Nat.le_refl _, by rw [wsum_far l slope a (by omega), wsum_far l slope l.length (Nat.le_refl _)]⟩
theorem bestR_mx (l : List Int) (slope : Int) (k : Nat) : bestR mx l slope k l.length = bw mx l slope k l.length := by
  obtain ⟨a, ha⟩ := bestR_is bet_mx l slope k l.length
  obtain ⟨b, hb⟩ := bw_is bet_mx l slope k l.length
  obtain ⟨a', ha', ea⟩ := near l slope k a
  obtain ⟨b', hb', eb⟩ := near l slope k b
  have h1 := vbw_mx l slope k l.length a' ha'
  have h2 := vR_mx l slope k l.length b' (by omega)
  omega
theorem bestR_mn (l : List Int) (slope : Int) (k : Nat) : bestR mn l slope k l.length = bw mn l slope k l.length := by
  obtain ⟨a, ha⟩ := bestR_is bet_mn l slope k l.length
  obtain ⟨b, hb⟩ := bw_is bet_mn l slope k l.length
  obtain ⟨a', ha', ea⟩ := near l slope k a
  obtain ⟨b', hb', eb⟩ := near l slope k b
  have h1 := vbw_mn l slope k l.length a' ha'
  have h2 := vR_mn l slope k l.length b' (by omega)
  omega
/-- The choice by the reference's mark. -/
def betG (g : Bool) : Int → Int → Int := if g = true then mx else mn
theorem bestR_bw (g : Bool) (l : List Int) (slope : Int) (k : Nat) : bestR (betG g) l slope k l.length = bw (betG g) l slope k l.length := by
  cases g
  · exact bestR_mn l slope k
  · exact bestR_mx l slope k
section
variable {l : List Int} {slope : Int} (h : Sml l slope 1073741824) (hl : l.length ≤ 40) (g : Bool)
include h hl
theorem rwin_l1 (n : Nat) (hn : n ≤ 41) (acc : List Int) (hacc : acc.length ≤ 50) (R : Option (List Int × Int × Int)) (K0 : Nat) (hK0 : 100 ≤ K0) (hR : ∀ K, K0 ≤ K → (if bestR (betG g) l slope n l.length > 1073741824 then some (([] : List Int), 0, 2) else standbyref55_windows.l0 K l slope g (wrap64 ((n : Int) + 1)) (acc ++ [bestR (betG g) l slope n l.length]) slope) = R) :
    ∀ d i K : Nat, i + d = l.length → K0 + d ≤ K → standbyref55_windows.l1 (K + 1) l slope g (n : Int) (bestR (betG g) l slope n i) (i : Int) acc slope = R := by
  intro d
  induction d with
  | zero =>
    intro i K hi hK
    obtain rfl : i = l.length := by omega
    simp only [standbyref55_windows.l1]
    rw [if_neg (by omega), ← hR K (by omega), if_pos (c := acc.length < 17592186044416) (by omega)]
  | succ d ih =>
    intro i K hi hK
    obtain ⟨K, rfl⟩ : ∃ K', K = K' + 1 := ⟨K - 1, by omega⟩
    have e3 : wrap64 ((i : Int) + 1) = ((i + 1 : Nat) : Int) := by rw [w64 _ (by omega) (by omega)]; omega
    have hn := ih (i + 1) K (by omega) (by omega)
    simp only [standbyref55_windows.l1, e3]
    rw [if_pos (by omega), windowB_f l slope h (by omega) i n (by omega) (by omega) (K + 1) (by omega), Option.bind_some]
    simp only [bestR] at hn
    cases g
    · rw [if_neg (by simp)]
      have e : betG false (bestR (betG false) l slope n i) (wsum l slope i n) = if wsum l slope i n < bestR (betG false) l slope n i then wsum l slope i n else bestR (betG false) l slope n i := rfl
      rw [e] at hn
      by_cases hc : wsum l slope i n < bestR (betG false) l slope n i
      · rw [if_pos hc] at hn ⊢; exact hn
      · rw [if_neg hc] at hn ⊢; exact hn
    · rw [if_pos rfl]
      have e : betG true (bestR (betG true) l slope n i) (wsum l slope i n) = if bestR (betG true) l slope n i < wsum l slope i n then wsum l slope i n else bestR (betG true) l slope n i := rfl
      rw [e] at hn
      by_cases hc : bestR (betG true) l slope n i < wsum l slope i n
      · rw [if_pos hc] at hn; rw [if_pos (show wsum l slope i n > bestR (betG true) l slope n i from hc)]; exact hn
      · rw [if_neg hc] at hn; rw [if_neg (show ¬ wsum l slope i n > bestR (betG true) l slope n i from hc)]; exact hn
theorem rwin_l0 (hE : seqE l slope = 0) : ∀ d i K : Nat, i + d = l.length + 1 → 200 + 50 * d ≤ K → (∀ x ∈ bests (betG g) (upF (sumsOf l) l.length slope) l.length i, x ≤ 1073741824) →
    standbyref55_windows.l0 K l slope g (i : Int) (bests (betG g) (upF (sumsOf l) l.length slope) l.length i) slope = some (winF (betG g) l slope) := by
  obtain ⟨o1, o2, o3, o4⟩ := seq_ok hE
  have hW : ∀ i : Nat, i ≤ 41 → bestTo (betG g) (upF (sumsOf l) l.length slope) (i : Int) l.length = bestR (betG g) l slope i l.length := fun i hi => by
    rw [bestR_bw]; exact bestTo_bw h (by omega) (by omega) i (by omega) l.length (by omega)
  have wn : ¬ (4096 ≤ l.length) ∧ ¬ (∃ x ∈ l, ¬ TimeOk x) ∧ ¬ (¬ TimeOk l.sum ∨ ¬ TimeOk slope) := ⟨by omega, fun ⟨x, hx, hn⟩ => hn (o2 x hx), fun e => e.elim (fun a => a o3) (fun a => a o4)⟩
  intro d
  induction d with
  | zero =>
    intro i K hi hK hb
    obtain ⟨K, rfl⟩ : ∃ K', K = K' + 1 := ⟨K - 1, by omega⟩
    obtain rfl : i = l.length + 1 := by omega
    simp only [standbyref55_windows.l0]
    unfold winF
    rw [if_neg (by omega), if_neg wn.1, if_neg wn.2.1, if_neg wn.2.2, if_neg (fun ⟨x, hx, hg⟩ => by have := hb x hx; omega)]
  | succ d ih =>
    intro i K hi hK hb
    obtain ⟨K, rfl⟩ : ∃ K', K = K' + 1 := ⟨K - 1, by omega⟩
    have e3 : wrap64 ((i : Int) + 1) = ((i + 1 : Nat) : Int) := by rw [w64 _ (by omega) (by omega)]; omega
    simp only [standbyref55_windows.l0]
    rw [if_pos (by omega), windowB_f l slope h (by omega) l.length i (by omega) (by omega) K (by omega), Option.bind_some]
    obtain ⟨K, rfl⟩ : ∃ K', K = K' + 1 := ⟨K - 1, by omega⟩
    refine rwin_l1 h hl g i (by omega) _ (by rw [bests_len]; omega) _ (K - l.length) (by omega) (fun K2 hK2 => ?_) l.length 0 K (by omega) (by omega)
    rw [← hW i (by omega)]
    by_cases hc : bestTo (betG g) (upF (sumsOf l) l.length slope) (i : Int) l.length > 1073741824
    · rw [if_pos hc]
      unfold winF
      rw [if_neg wn.1, if_neg wn.2.1, if_neg wn.2.2, if_pos ⟨_, bests_mem (betG g) _ l.length (show i < l.length + 1 by omega), hc⟩]
    · rw [if_neg hc, e3, ← bests_succ]
      refine ih (i + 1) K2 (by omega) (by omega) (fun x hx => ?_)
      rw [bests_succ, List.mem_append, List.mem_singleton] at hx
      rcases hx with hx | hx
      · exact hb x hx
      · rw [hx]; omega
end
theorem rwin_f (l : List Int) (slope : Int) (hl : l.length ≤ 40) (g : Bool) (k : Nat) (hk : 9000 ≤ k) : standbyref55_windows.f k l slope g = some (winF (betG g) l slope) := by
  unfold standbyref55_windows.f
  rw [seq_f l slope k (by omega), Option.bind_some]
  by_cases hE : seqE l slope = 0
  · obtain ⟨o1, o2, o3, o4⟩ := seq_ok hE
    rw [if_pos hE]
    exact rwin_l0 ⟨fun x hx => o2 x hx, o4.1, o4.2⟩ hl g hE (l.length + 1) 0 k (by omega) (by omega) (by simp [bests])
  · rw [if_neg hE, winF_seq _ _ _ hE]
theorem winF_len (bet : Int → Int → Int) (l : List Int) (slope : Int) (hl : l.length ≤ 4095) : (winF bet l slope).1.length ≤ 4096 := by
  unfold winF
  split
  · simp
  · split
    · simp
    · split
      · simp
      · split
        · simp
        · rw [bests_len]; omega
end Go.Proofs.Ytanlonngekgibaa.Pr

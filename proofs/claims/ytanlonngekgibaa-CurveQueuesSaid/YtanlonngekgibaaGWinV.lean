/- The curves of a short sequence: what curve.windows answers, by sums of windows. -/
import Derived.Test.YtanlonngekgibaaGCurK
import Derived.Test.YtanlonngekgibaaGWin
import Derived.Test.YtanlonngekgibaaF18
import Derived.Test.YtanlonngekgibaaF29
namespace Go.Proofs.Ytanlonngekgibaa.Pr
open Go.RowKit Go.Proofs.YtanlonngekgibaaW.PrintWords Go.Proofs.YtanlonngekgibaaW.PrintLast Go.Proofs.YtanlonngekgibaaW.PrintMore
set_option linter.unusedVariables false
set_option linter.unusedSimpArgs false
/-- The amount of a tick. -/
def sq (l : List Int) (slope : Int) (i : Nat) : Int := if i < l.length then rd l (i : Int) else slope
/-- The amount of k ticks from one on. -/
def wsum (l : List Int) (slope : Int) (a : Nat) : Nat → Int
  | 0 => 0
  | k + 1 => wsum l slope a k + sq l slope (a + k)
theorem wsum_add (l : List Int) (slope : Int) (a k : Nat) : ∀ j : Nat, wsum l slope a (k + j) = wsum l slope a k + wsum l slope (a + k) j := by
  intro j
  induction j with
  | zero => simp [wsum]
  | succ j ih => rw [show k + (j + 1) = (k + j) + 1 from rfl]; simp only [wsum]; rw [ih, show a + (k + j) = a + k + j from by omega]; omega
theorem wsum_far (l : List Int) (slope : Int) (a : Nat) (h : l.length ≤ a) : ∀ k : Nat, wsum l slope a k = (k : Int) * slope := by
  intro k
  induction k with
  | zero => simp [wsum]
  | succ k ih => simp only [wsum]; rw [ih, sq, if_neg (by omega), show ((k + 1 : Nat) : Int) = (k : Int) + 1 from by omega, Int.add_mul]; omega
theorem wsum_take (l : List Int) (slope : Int) : ∀ k : Nat, k ≤ l.length → wsum l slope 0 k = (l.take k).sum := by
  intro k
  induction k with
  | zero => intro _; simp [wsum]
  | succ k ih =>
    intro hk
    simp only [wsum]
    rw [ih (by omega), take_rd l k (by omega), sq, if_pos (by omega), show 0 + k = k from by omega]
    simp
/-- Small amounts. -/
def Sml (l : List Int) (slope B : Int) : Prop := (∀ x ∈ l, 0 ≤ x ∧ x ≤ B) ∧ 0 ≤ slope ∧ slope ≤ B
theorem sq_bd {l : List Int} {slope B : Int} (h : Sml l slope B) (i : Nat) : 0 ≤ sq l slope i ∧ sq l slope i ≤ B := by
  unfold sq
  split
  · exact h.1 _ (rd_mem l (i : Int) (by omega) (by omega))
  · exact h.2
theorem wsum_bd {l : List Int} {slope B : Int} (h : Sml l slope B) (a : Nat) : ∀ k : Nat, 0 ≤ wsum l slope a k ∧ wsum l slope a k ≤ (k : Int) * B := by
  intro k
  induction k with
  | zero => simp [wsum]
  | succ k ih =>
    have := sq_bd h (a + k)
    simp only [wsum]
    rw [show ((k + 1 : Nat) : Int) = (k : Int) + 1 from by omega, Int.add_mul]
    omega
theorem up_wsum {l : List Int} {slope B : Int} (h : Sml l slope B) (hB : B ≤ 1073741824) (hl : l.length ≤ 4096) (t : Nat) (ht : t ≤ 20000) : upF (sumsOf l) l.length slope (t : Int) = wsum l slope 0 t := by
  unfold upF
  rw [sumsOf_len]
  by_cases hlt : (t : Int) < ((l.length + 1 : Nat) : Int)
  · rw [if_pos hlt, sumsOf_rd l t (by omega), wsum_take l slope t (by omega)]
  · rw [if_neg hlt, sumsOf_rd l l.length (Nat.le_refl _), List.take_length]
    have e := wsum_add l slope 0 l.length (t - l.length)
    rw [show l.length + (t - l.length) = t from by omega, Nat.zero_add, wsum_take l slope l.length (Nat.le_refl _), List.take_length, wsum_far l slope l.length (Nat.le_refl _), show ((t - l.length : Nat) : Int) = (t : Int) - (l.length : Int) from by omega] at e
    have b1 := wsum_bd h 0 l.length
    rw [wsum_take l slope l.length (Nat.le_refl _), List.take_length] at b1
    have b2 : 0 ≤ ((t : Int) - (l.length : Int)) * slope := Int.mul_nonneg (by omega) h.2.1
    have b3 : ((t : Int) - (l.length : Int)) * slope ≤ 20000 * 1073741824 := Int.mul_le_mul (by omega) (by have := h.2.2; omega) h.2.1 (by decide)
    have b4 : (l.length : Int) * B ≤ 4096 * 1073741824 := Int.mul_le_mul (by omega) hB (by have := h.2.1; have := h.2.2; omega) (by decide)
    rw [w64 ((t : Int) - (l.length : Int)) (by omega) (by omega), w64 (((t : Int) - (l.length : Int)) * slope) (by omega) (by omega), w64 _ (by omega) (by omega), e]
/-- What is asked of the choice. -/
structure Bet (bet : Int → Int → Int) : Prop where
  shift : ∀ a b c, bet (a + c) (b + c) = bet a b + c
  again : ∀ a b, bet (bet a b) b = bet a b
  same : ∀ a, bet a a = a
  mono : ∀ a b c d, a ≤ c → b ≤ d → bet a b ≤ bet c d
  one : ∀ a b, bet a b = a ∨ bet a b = b
theorem bet_mx : Bet mx := ⟨by intro a b c; unfold mx; split <;> split <;> omega, by intro a b; unfold mx; by_cases h : a < b <;> simp [h], by intro a; unfold mx; split <;> omega, by intro a b c d h1 h2; unfold mx; split <;> split <;> omega, by intro a b; unfold mx; split <;> simp⟩
theorem bet_mn : Bet mn := ⟨by intro a b c; unfold mn; split <;> split <;> omega, by intro a b; unfold mn; by_cases h : b < a <;> simp [h], by intro a; unfold mn; split <;> omega, by intro a b c d h1 h2; unfold mn; split <;> split <;> omega, by intro a b; unfold mn; split <;> simp⟩
/-- The best window of k ticks that begins at a tick up to j. -/
def bw (bet : Int → Int → Int) (l : List Int) (slope : Int) (k : Nat) : Nat → Int
  | 0 => wsum l slope 0 k
  | j + 1 => bet (bw bet l slope k j) (wsum l slope (j + 1) k)
theorem bestTo_bw {bet : Int → Int → Int} {l : List Int} {slope B : Int} (h : Sml l slope B) (hB : B ≤ 1073741824) (hl : l.length ≤ 4096) (k : Nat) (hk : k ≤ 4097) : ∀ j : Nat, j ≤ 4097 → bestTo bet (upF (sumsOf l) l.length slope) (k : Int) j = bw bet l slope k j := by
  intro j
  induction j with
  | zero => intro _; exact up_wsum h hB hl k (by omega)
  | succ j ih =>
    intro hj
    have b1 := wsum_bd h (j + 1) k
    have b4 : (k : Int) * B ≤ 4097 * 1073741824 := Int.mul_le_mul (by omega) hB (by have := h.2.1; have := h.2.2; omega) (by decide)
    rw [bestTo_succ, ih (by omega), show (j : Int) + 1 + (k : Int) = ((j + 1 + k : Nat) : Int) from by omega, show (j : Int) + 1 = ((j + 1 : Nat) : Int) from by omega, up_wsum h hB hl _ (by omega), up_wsum h hB hl _ (by omega), wsum_add l slope 0 (j + 1) k, Nat.zero_add]
    rw [show wsum l slope 0 (j + 1) + wsum l slope (j + 1) k - wsum l slope 0 (j + 1) = wsum l slope (j + 1) k from by omega, w64 _ (by omega) (by omega)]
    rfl
theorem bw_is {bet : Int → Int → Int} (hb : Bet bet) (l : List Int) (slope : Int) (k : Nat) : ∀ j : Nat, ∃ a : Nat, bw bet l slope k j = wsum l slope a k := by
  intro j
  induction j with
  | zero => exact ⟨0, rfl⟩
  | succ j ih =>
    obtain ⟨a, ha⟩ := ih
    simp only [bw]
    rcases hb.one (bw bet l slope k j) (wsum l slope (j + 1) k) with h | h
    · exact ⟨a, by rw [h, ha]⟩
    · exact ⟨j + 1, h⟩
theorem bw_up {bet : Int → Int → Int} (hb : Bet bet) {l : List Int} {slope B : Int} (h : Sml l slope B) (k : Nat) : ∀ j : Nat, bw bet l slope k j ≤ bw bet l slope (k + 1) j := by
  have st : ∀ a, wsum l slope a k ≤ wsum l slope a (k + 1) := fun a => by have := sq_bd h (a + k); simp only [wsum]; omega
  intro j
  induction j with
  | zero => exact st 0
  | succ j ih => exact hb.mono _ _ _ _ ih (st (j + 1))
theorem bw_shift {bet : Int → Int → Int} (hb : Bet bet) (l : List Int) (slope : Int) (d : Nat) : ∀ j : Nat, bw bet l slope (l.length + d) j = bw bet l slope l.length j + (d : Int) * slope := by
  have st : ∀ a, wsum l slope a (l.length + d) = wsum l slope a l.length + (d : Int) * slope := fun a => by rw [wsum_add, wsum_far l slope (a + l.length) (by omega)]
  intro j
  induction j with
  | zero => exact st 0
  | succ j ih => simp only [bw]; rw [ih, st, hb.shift]
theorem bw_end {bet : Int → Int → Int} (hb : Bet bet) (l : List Int) (slope : Int) (k : Nat) : ∀ d : Nat, bw bet l slope k (l.length + d) = bw bet l slope k l.length := by
  intro d
  induction d with
  | zero => rfl
  | succ d ih =>
    rw [show l.length + (d + 1) = (l.length + d) + 1 from rfl]
    simp only [bw]
    rw [ih, wsum_far l slope _ (by omega)]
    cases hl : l.length with
    | zero =>
      simp only [bw]
      rw [wsum_far l slope 0 (by omega), hb.same]
    | succ n =>
      simp only [bw]
      rw [wsum_far l slope (n + 1) (by omega), hb.again]
theorem bests_rd (bet : Int → Int → Int) (U : Int → Int) (n i m : Nat) (h : i < m) : rd (bests bet U n m) (i : Int) = bestTo bet U (i : Int) n := by
  simp [rd, bests, List.getD_eq_getElem?_getD, List.getElem?_map, List.getElem?_range h]
/-- The curve of a short sequence of small amounts. -/
theorem win_small {bet : Int → Int → Int} (hb : Bet bet) {l : List Int} {slope : Int} (h : Sml l slope 1000) (hl : l.length ≤ 30) :
    ∃ r, winF bet l slope = (r, slope, 0) ∧ CurOk r slope ∧ ∀ n : Nat, n ≤ 100 → cv r slope (n : Int) = bw bet l slope n l.length := by
  have hU : ∀ k : Nat, k ≤ 4097 → bestTo bet (upF (sumsOf l) l.length slope) (k : Int) l.length = bw bet l slope k l.length := fun k hk => bestTo_bw h (by omega) (by omega) k hk l.length (by omega)
  have hbd : ∀ k : Nat, k ≤ 31 → TimeOk (bw bet l slope k l.length) := fun k hk => by
    obtain ⟨a, ha⟩ := bw_is hb l slope k l.length
    have := wsum_bd h a k
    rw [ha]; unfold TimeOk; omega
  have hx : ∀ x ∈ bests bet (upF (sumsOf l) l.length slope) l.length (l.length + 1), TimeOk x := by
    intro x hx
    obtain ⟨i, hi, rfl⟩ := List.mem_map.1 hx
    have := List.mem_range.1 hi
    show TimeOk (bestTo bet _ _ _)
    rw [hU i (by omega)]
    exact hbd i (by omega)
  have hs : TimeOk slope := by have := h.2; unfold TimeOk; omega
  have hsum := wsum_bd h 0 l.length
  rw [wsum_take l slope l.length (Nat.le_refl _), List.take_length] at hsum
  have hln := bests_len bet (upF (sumsOf l) l.length slope) l.length (l.length + 1)
  refine ⟨bests bet (upF (sumsOf l) l.length slope) l.length (l.length + 1), ?_, ⟨by omega, by omega, hx, hs, ?_⟩, ?_⟩
  · unfold winF
    rw [if_neg (by omega), if_neg (c := ∃ x ∈ l, ¬ TimeOk x) (fun ⟨x, hx, hn⟩ => hn (by have := h.1 x hx; unfold TimeOk; omega)), if_neg (c := ¬ TimeOk l.sum ∨ ¬ TimeOk slope) (fun e => e.elim (fun x => x (by unfold TimeOk; omega)) (fun x => x hs)), if_neg (fun ⟨x, hxm, hg⟩ => by have := hx x hxm; unfold TimeOk at this; omega)]
  · intro i hi
    rw [hln] at hi
    rw [bests_rd _ _ _ _ _ (by omega), show (i : Int) + 1 = ((i + 1 : Nat) : Int) from by omega, bests_rd _ _ _ _ _ (by omega), hU i (by omega), hU (i + 1) (by omega)]
    exact bw_up hb h i l.length
  · intro n hn
    unfold cv
    rw [hln]
    by_cases hlt : (n : Int) < ((l.length + 1 : Nat) : Int)
    · rw [if_pos hlt, bests_rd _ _ _ _ _ (by omega), hU n (by omega)]
    · rw [if_neg hlt, show ((l.length + 1 : Nat) : Int) - 1 = (l.length : Int) from by omega, bests_rd _ _ _ _ _ (by omega), hU l.length (by omega)]
      have := bw_shift hb l slope (n - l.length) l.length
      rw [show l.length + (n - l.length) = n from by omega] at this
      rw [this, show (n : Int) - ((l.length + 1 : Nat) : Int) + 1 = ((n - l.length : Nat) : Int) from by omega]
theorem window_l0 (l : List Int) (slope : Int) (h : Sml l slope 1000) (hl : l.length ≤ 4096) (a k0 : Nat) (ha : a ≤ 5000) (hk0 : k0 ≤ 5000) : ∀ d i k : Nat, i + d = k0 → d + 1 ≤ k → standbyref55_Window.l0 k l slope (a : Int) (k0 : Int) (wsum l slope a i) ((a + i : Nat) : Int) = some (wsum l slope a k0) := by
  intro d
  induction d with
  | zero =>
    intro i k hi hk
    obtain ⟨k, rfl⟩ : ∃ k', k = k' + 1 := ⟨k - 1, by omega⟩
    simp only [standbyref55_Window.l0]
    rw [w64 ((a : Int) + (k0 : Int)) (by omega) (by omega), if_neg (by omega), show i = k0 from by omega]
  | succ d ih =>
    intro i k hi hk
    obtain ⟨k, rfl⟩ : ∃ k', k = k' + 1 := ⟨k - 1, by omega⟩
    have b := wsum_bd h a i
    have b2 := sq_bd h (a + i)
    have e3 : wrap64 (((a + i : Nat) : Int) + 1) = ((a + (i + 1) : Nat) : Int) := by rw [w64 _ (by omega) (by omega)]; omega
    have h2 := ih (i + 1) k (by omega) (by omega)
    simp only [wsum] at h2
    simp only [standbyref55_Window.l0, e3]
    rw [w64 ((a : Int) + (k0 : Int)) (by omega) (by omega), if_pos (by omega)]
    by_cases hlt : a + i < l.length
    · unfold sq at h2 b2
      rw [if_pos hlt] at h2 b2
      rw [if_pos (by omega), if_pos (by omega), w64 (wsum l slope a i + rd l ((a + i : Nat) : Int)) (by omega) (by omega)]
      exact h2
    · unfold sq at h2 b2
      rw [if_neg hlt] at h2 b2
      rw [if_neg (by omega), w64 (wsum l slope a i + slope) (by omega) (by omega)]
      exact h2
theorem window_f (l : List Int) (slope : Int) (h : Sml l slope 1000) (hl : l.length ≤ 4096) (a k0 : Nat) (ha : a ≤ 5000) (hk0 : k0 ≤ 5000) (k : Nat) (hk : 6000 ≤ k) : standbyref55_Window.f k l slope (a : Int) (k0 : Int) = some (wsum l slope a k0) := by
  unfold standbyref55_Window.f
  exact window_l0 l slope h hl a k0 ha hk0 k0 0 k (by omega) (by omega)
theorem At_f {l : List Int} {s : Int} (h : CurOk l s) (hc : chkC l s = 0) (x : Int) (h0 : 0 ≤ x) (h1 : x ≤ 1073741824) (k : Nat) (hk : 5000 ≤ k) : curve_At.f k l s x = some (cv l s x) := by
  unfold curve_At.f
  rw [check_f l s k hk, hc, Option.bind_some, if_pos rfl, if_neg (by omega), show mn x 1073741824 = x from by unfold mn; split <;> omega, at_f h x h0 h1]; rfl
theorem ok_chk {l : List Int} {s : Int} (h : CurOk l s) : chkC l s = 0 := by
  have h1 := h.h1; have h2 := h.h2
  unfold chkC
  rw [if_neg (by omega), if_neg (fun e => e.elim (fun ⟨x, hx, hn⟩ => hn (h.t x hx)) (fun hn => hn h.s)), if_pos h.up]
end Go.Proofs.Ytanlonngekgibaa.Pr

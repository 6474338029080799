/- The end of a transfer as a function of numbers, and the contract of end by it. -/
import Derived.Test.YtcflacjidabppaaGEnd
namespace Go.Proofs.Ytcflacjidabppaa.Pr
open Go.RowKit Go.Proofs.YtcflacjidabppaaW.PrintWords Go.Proofs.YtcflacjidabppaaW.PrintLast Go.Proofs.YtcflacjidabppaaW.PrintMore
set_option linter.unusedVariables false

/-- The first tick from t on, of k ticks, before which want sectors are carried. -/
def findT (sums : List Int) (last want : Int) : Nat → Int → Option Int
  | 0, _ => none
  | k + 1, t => if want ≤ bef sums last t then some t else findT sums last want k (t + 1)

/-- The end of a transfer; none: it never ends. -/
def endT (sums : List Int) (last start size : Int) : Option Int :=
  if size = 0 then some start
  else match findT sums last (bef sums last start + size) ((sums.length : Int) - start).toNat start with
    | some t => some t
    | none => if last = 0 then none else some (max start ((sums.length : Int) - 1) + (bef sums last start + size - bef sums last (max start ((sums.length : Int) - 1)) + last - 1) / last)

theorem findT_some (sums : List Int) (last want : Int) (k : Nat) : ∀ (t r : Int), findT sums last want k t = some r → t ≤ r ∧ r < t + k ∧ want ≤ bef sums last r ∧ ∀ u, t ≤ u → u < r → bef sums last u < want := by
  induction k with
  | zero => intro t r h; cases h
  | succ k ih =>
    intro t r h
    unfold findT at h
    split at h
    · rename_i hc
      obtain rfl := Option.some.inj h
      exact ⟨by omega, by omega, hc, fun u h1 h2 => by omega⟩
    · rename_i hc
      obtain ⟨h1, h2, h3, h4⟩ := ih _ _ h
      refine ⟨by omega, by omega, h3, fun u h5 h6 => ?_⟩
      by_cases e : u = t
      · subst e; omega
      · exact h4 u (by omega) h6
theorem findT_none (sums : List Int) (last want : Int) (k : Nat) : ∀ (t : Int), findT sums last want k t = none → ∀ u, t ≤ u → u < t + k → bef sums last u < want := by
  induction k with
  | zero => intro t h u h1 h2; omega
  | succ k ih =>
    intro t h u h1 h2
    unfold findT at h
    split at h
    · cases h
    · rename_i hc
      by_cases e : u = t
      · subst e; omega
      · exact ih _ h u (by omega) (by omega)

theorem endT_some (sums : List Int) (last start size t : Int) (hS : Small sums last) (hU : Up sums) (h0 : 0 ≤ start) (hz : 0 ≤ size) (h : endT sums last start size = some t) : EndsAt sums last start size t := by
  unfold endT at h
  split at h
  · rename_i e
    subst e
    obtain rfl := Option.some.inj h
    exact ⟨by omega, by omega, fun u h1 h2 => by omega⟩
  · rename_i e
    split at h
    · rename_i r hf
      obtain rfl := Option.some.inj h
      obtain ⟨h1, h2, h3, h4⟩ := findT_some _ _ _ _ _ _ hf
      exact ⟨h1, h3, h4⟩
    · rename_i hf
      have hn := findT_none _ _ _ _ _ hf
      split at h
      · cases h
      · rename_i hl
        have hl1 := hS.1
        have hl2 := hS.2.2.2.1
        have hp : 0 < last := by omega
        obtain rfl := Option.some.inj h
        have ha1 : start ≤ max start ((sums.length : Int) - 1) := by omega
        have ha2 : (sums.length : Int) - 1 ≤ max start ((sums.length : Int) - 1) := by omega
        have hlt : bef sums last (max start ((sums.length : Int) - 1)) < bef sums last start + size := by
          by_cases hc : start ≤ (sums.length : Int) - 1
          · rw [show max start ((sums.length : Int) - 1) = (sums.length : Int) - 1 from by omega]
            exact hn _ (by omega) (by omega)
          · rw [show max start ((sums.length : Int) - 1) = start from by omega]
            omega
        generalize max start ((sums.length : Int) - 1) = a at ha1 ha2 hlt
        obtain ⟨D, hD⟩ : ∃ D, D = bef sums last start + size - bef sums last a := ⟨_, rfl⟩
        rw [show bef sums last start + size - bef sums last a + last - 1 = D + last - 1 from by omega]
        have hd1 : 0 < D := by omega
        have hq1 : ((D + last - 1) / last) * last ≤ D + last - 1 := Int.ediv_mul_le _ (by omega)
        have hq2 : D + last - 1 < ((D + last - 1) / last + 1) * last := Int.lt_ediv_add_one_mul_self _ hp
        have hq3 : 0 ≤ (D + last - 1) / last := Int.ediv_nonneg (by omega) (by omega)
        generalize (D + last - 1) / last = q at hq1 hq2 hq3
        rw [Int.add_mul, Int.one_mul] at hq2
        refine ⟨by omega, ?_, fun u h1 h2 => ?_⟩
        · rw [bef_far sums last a (a + q) ha2 (by omega), show a + q - a = q from by omega]; omega
        · by_cases hu : u ≤ a
          · have := bef_mono sums last hS hU u a (by omega) hu
            omega
          · rw [bef_far sums last a u ha2 (by omega)]
            have h3 : (u - a) * last ≤ (q - 1) * last := Int.mul_le_mul_of_nonneg_right (by omega) (by omega)
            rw [Int.sub_mul q, Int.one_mul] at h3
            omega
theorem endT_none (sums : List Int) (last start size : Int) (hS : Small sums last) (hU : Up sums) (h0 : 0 ≤ start) (hz : 0 ≤ size) (h : endT sums last start size = none) : size ≠ 0 ∧ ∀ u, start ≤ u → bef sums last u < bef sums last start + size := by
  unfold endT at h
  split at h
  · cases h
  · rename_i e
    split at h
    · cases h
    · rename_i hf
      have hn := findT_none _ _ _ _ _ hf
      split at h
      · rename_i hl
        refine ⟨e, fun u hu => ?_⟩
        by_cases hc : u ≤ (sums.length : Int) - 1
        · exact hn u hu (by omega)
        · have hl1 := hS.1
          by_cases hs : start ≤ (sums.length : Int) - 1
          · rw [bef_far sums last ((sums.length : Int) - 1) u (by omega) (by omega)]
            have h1 := hn ((sums.length : Int) - 1) hs (by omega)
            have h2 : (u - ((sums.length : Int) - 1)) * last = 0 := by rw [hl, Int.mul_zero]
            omega
          · rw [bef_far sums last start u (by omega) (by omega)]
            have h2 : (u - start) * last = 0 := by rw [hl, Int.mul_zero]
            omega
      · cases h

theorem EndsAt.unique {sums : List Int} {last start size t u : Int} (h : EndsAt sums last start size t) (k : EndsAt sums last start size u) : t = u := by
  rcases Int.lt_or_le t u with e | e
  · have := k.2.2 t h.1 e
    have := h.2.1
    omega
  · rcases Int.lt_or_le u t with e' | e'
    · have := h.2.2 u k.1 e'
      have := k.2.1
      omega
    · omega

/-- As the call answers, for numbers that are small. -/
def endF (sums : List Int) (last start size : Int) : Option (Int × Bool) :=
  if 0 ≤ start ∧ start ≤ 549755813888 ∧ 0 ≤ size ∧ size ≤ 17000000 then (match endT sums last start size with | some t => some (t, true) | none => some (0, false)) else none

theorem end_calls (g : Nat) (sums : List Int) (last start size r1 : Int) (r2 : Bool) (w : World) (hC : Car w g sums last) (hS : Small sums last) (hU : Up sums) (h : endF sums last start size = some (r1, r2)) :
    Calls Try.prog 37 #[.pointer (some ⟨g, 0, none⟩), .int .i64 start, .int .i64 size] w fun e w' => e = .returned (.tuple #[.int .i64 r1, .bool r2]) ∧ Below w.heap.size w w' := by
  unfold endF at h
  split at h
  · rename_i hc
    obtain ⟨h0, h1, h2, h3⟩ := hc
    split at h
    · rename_i t ht
      obtain ⟨rfl, rfl⟩ := Prod.mk.inj (Option.some.inj h)
      by_cases hz : size = 0
      · subst hz
        unfold endT at ht
        rw [if_pos rfl] at ht
        obtain rfl := Option.some.inj ht
        exact end_zero g sums last start w hC hS h0 (by omega)
      · have hE := endT_some sums last start size t hS hU h0 h2 ht
        by_cases hl : t ≤ (sums.length : Int) - 1
        · exact end_search g sums last start size t w hC hS hU h0 h1 (by omega) h3 hE hl
        · exact end_far g sums last start size t w hC hS hU h0 h1 (by omega) h3 hE hl
    · rename_i ht
      obtain ⟨rfl, rfl⟩ := Prod.mk.inj (Option.some.inj h)
      obtain ⟨hz, hE⟩ := endT_none sums last start size hS hU h0 h2 ht
      exact end_never g sums last start size w hC hS hU h0 h1 (by omega) h3 hE
  · cases h
end Go.Proofs.Ytcflacjidabppaa.Pr

/- The plan as a function of numbers. -/
import Derived.Test.YtcflacjidabppaaGPlan
import Derived.Test.YtcflacjidabppaaGPureK
import Derived.Test.YtcflacjidabppaaGEndT
import Derived.Test.YtcflacjidabppaaGSizes
import Derived.Test.YtcflacjidabppaaGNewCar
namespace Go.Proofs.Ytcflacjidabppaa.Pr
open Go.RowKit Go.Proofs.YtcflacjidabppaaW.PrintWords Go.Proofs.YtcflacjidabppaaW.PrintLast Go.Proofs.YtcflacjidabppaaW.PrintMore
set_option linter.unusedVariables false
set_option linter.unusedSimpArgs false
theorem bef_step (C : List Int) (last : Int) (i : Nat) (h : i < C.length) : bef (sumsOf C) last ((i + 1 : Nat) : Int) = bef (sumsOf C) last (i : Int) + rd C (i : Int) := by
  rw [bef_low _ _ _ (by rw [sumsOf_len]; omega), bef_low _ _ _ (by rw [sumsOf_len]; omega), sumsOf_rd C _ (by omega), sumsOf_rd C _ (by omega), take_rd C i h, List.sum_append]
  simp
theorem rd_app_lt (l : List Int) (x : Int) (j : Nat) (h : j < l.length) : rd (l ++ [x]) (j : Int) = rd l (j : Int) := by
  simp [rd, List.getD_eq_getElem?_getD, List.getElem?_append_left h]
theorem rd_app_eq (l : List Int) (x : Int) (j : Nat) (h : j = l.length) : rd (l ++ [x]) (j : Int) = x := by
  subst h
  simp [rd, List.getD_eq_getElem?_getD]
/-- The greatest age up to the i-th application. -/
def bndN (P : Nat) (E : List Int) : Nat → Int
  | 0 => 0
  | i + 1 => if i = 0 ∨ rd E (i : Int) > rd E (((i - 1 : Nat)) : Int) then mx (bndN P E i) (rd E (i : Int) - 1 - ((i * P : Nat) : Int)) else bndN P E i
theorem bndN_app (P : Nat) (E : List Int) (x : Int) : ∀ i, i ≤ E.length → bndN P (E ++ [x]) i = bndN P E i := by
  intro i
  induction i with
  | zero => intro _; rfl
  | succ i ih =>
    intro h
    unfold bndN
    rw [ih (by omega), rd_app_lt E x i (by omega), rd_app_lt E x (i - 1) (by omega)]
theorem bnd_low (P : Nat) (hP : 1 ≤ P) (E : List Int) : ∀ i : Nat, rd E (i : Int) - (((i + 1) * P : Nat) : Int) ≤ bndN P E (i + 1) := by
  intro i
  induction i with
  | zero =>
    have e : bndN P E (0 + 1) = mx 0 (rd E ((0 : Nat) : Int) - 1 - ((0 * P : Nat) : Int)) := rfl
    rw [e, Nat.zero_add, Nat.zero_mul, Nat.one_mul]
    unfold mx; split <;> omega
  | succ i ih =>
    have hm : (i + 1 + 1) * P = (i + 1) * P + P := Nat.succ_mul (i + 1) P
    have e : bndN P E (i + 1 + 1) = if i + 1 = 0 ∨ rd E ((i + 1 : Nat) : Int) > rd E (((i + 1 - 1 : Nat)) : Int) then mx (bndN P E (i + 1)) (rd E ((i + 1 : Nat) : Int) - 1 - (((i + 1) * P : Nat) : Int)) else bndN P E (i + 1) := rfl
    rw [e]
    split
    · unfold mx; split <;> omega
    · rename_i hn
      have h3 : ¬ rd E ((i + 1 : Nat) : Int) > rd E (((i + 1 - 1 : Nat)) : Int) := fun e => hn (.inr e)
      rw [show i + 1 - 1 = i from by omega] at h3
      omega
/-- The plan. -/
def pgo (W C : List Int) (P : Nat) (lat app : Int) : Nat → Nat → Int → List Int → List Int → List Int → List Int → Option (List Int × List Int × List Int × List Int)
  | 0, _, _, A, B, D, E => some (A, B, D, E)
  | m + 1, i, e, A, B, D, E => match endT (sumsOf C) (rd C ((C.length : Int) - 1)) (mx (((i + 1) * P : Nat) : Int) e) (ckSum W P i) with
    | none => none
    | some x => pgo W C P lat app m (i + 1) x (A ++ [(((i + 1) * P : Nat) : Int)]) (B ++ [mx (((i + 1) * P : Nat) : Int) e]) (D ++ [x]) (E ++ [x + lat + app])
def outP (P : Nat) : Option (List Int × List Int × List Int × List Int) → List Int × List Int × List Int × List Int × Int × Int
  | none => ([], [], [], [], 0, 21)
  | some (A, B, D, E) => (A, B, D, E, bndN P E E.length, 0)
/-- What a trace in order has. -/
structure TrOk (W C : List Int) (P : Nat) (lat app : Int) : Prop where
  hW : W.length ≤ 4096
  hx : ∀ x ∈ W, 0 ≤ x ∧ x ≤ 4096
  hC : 1 ≤ C.length ∧ C.length ≤ 4096
  hc : ∀ x ∈ C, 0 ≤ x ∧ x ≤ 4096
  hP : 1 ≤ P ∧ P ≤ 4096
  hl : 0 ≤ lat ∧ lat ≤ 1073741824
  ha : 0 ≤ app ∧ app ≤ 1073741824
/-- What holds when i cycles are planned. -/
structure PInv (P : Nat) (lat app : Int) (i : Nat) (e : Int) (A B D E : List Int) : Prop where
  lA : A.length = i
  lB : B.length = i
  lD : D.length = i
  lE : E.length = i
  rA : ∀ j : Nat, j < i → rd A (j : Int) = (((j + 1) * P : Nat) : Int)
  rE : ∀ j : Nat, j < i → 0 ≤ rd E (j : Int) ∧ rd E (j : Int) ≤ 1099511627776
  e0 : 0 ≤ e ∧ e ≤ 17020000 * (i : Int)
  lst : ∀ j : Nat, i = j + 1 → rd E (j : Int) = e + lat + app
theorem PInv.start (P : Nat) (lat app : Int) : PInv P lat app 0 0 [] [] [] [] :=
  ⟨rfl, rfl, rfl, rfl, fun j h => absurd h (by omega), fun j h => absurd h (by omega), by omega, fun j h => absurd h (by omega)⟩
theorem ckSum_bd (W : List Int) (P i : Nat) (hW : W.length ≤ 4096) (hx : ∀ x ∈ W, 0 ≤ x ∧ x ≤ 4096) : 0 ≤ ckSum W P i ∧ ckSum W P i ≤ 16777216 := by
  unfold ckSum
  have h := sumB ((W.drop (i * P)).take P) (fun x h => hx x (List.mem_of_mem_drop (List.mem_of_mem_take h)))
  have h2 : ((W.drop (i * P)).take P).length ≤ 4096 := by rw [List.length_take, List.length_drop]; omega
  omega
theorem endT_bd (sums : List Int) (last start size t : Int) (hS : Small sums last) (hU : Up sums) (h0 : 0 ≤ start) (hz : 0 ≤ size) (h : endT sums last start size = some t) : start ≤ t ∧ t ≤ start + 5000 + size + 4096 := by
  have hE := endT_some sums last start size t hS hU h0 hz h
  refine ⟨hE.1, ?_⟩
  have hs1 := hS.2.1
  unfold endT at h
  split at h
  · obtain rfl := Option.some.inj h
    omega
  · split at h
    · rename_i r hf
      obtain rfl := Option.some.inj h
      obtain ⟨h1, h2, _⟩ := findT_some _ _ _ _ _ _ hf
      omega
    · split at h
      · cases h
      · obtain rfl := Option.some.inj h
        have hm := bef_mono sums last hS hU start (max start ((sums.length : Int) - 1)) h0 (by omega)
        have hl := hS.2.2.2
        have hl2 := hS.1
        obtain ⟨X, hX⟩ : ∃ X, bef sums last start + size - bef sums last (max start ((sums.length : Int) - 1)) = X := ⟨_, rfl⟩
        rw [hX]
        by_cases hp : 0 ≤ X + last - 1
        · have := Int.ediv_le_self last hp
          omega
        · have : (X + last - 1) / last ≤ 0 := by
            have := Int.ediv_neg_of_neg_of_pos (a := X + last - 1) (b := last) (by omega) (by omega)
            omega
          omega
theorem PInv.step {W C : List Int} {P : Nat} {lat app : Int} (hT : TrOk W C P lat app) {i : Nat} {e x : Int} {A B D E : List Int} (h : PInv P lat app i e A B D E) (hi : i < 4096)
    (hx : endT (sumsOf C) (rd C ((C.length : Int) - 1)) (mx (((i + 1) * P : Nat) : Int) e) (ckSum W P i) = some x) :
    PInv P lat app (i + 1) x (A ++ [(((i + 1) * P : Nat) : Int)]) (B ++ [mx (((i + 1) * P : Nat) : Int) e]) (D ++ [x]) (E ++ [x + lat + app]) := by
  have hb := ckSum_bd W P i hT.hW hT.hx
  have h1 := h.e0
  have hP := hT.hP
  have hl := hT.hl
  have ha := hT.ha
  have hmul : (i + 1) * P ≤ (i + 1) * 4096 := Nat.mul_le_mul_left _ hP.2
  have hmul2 : (i + 1) * P = i * P + P := Nat.succ_mul i P
  have hst : 0 ≤ mx (((i + 1) * P : Nat) : Int) e ∧ mx (((i + 1) * P : Nat) : Int) e ≤ 17020000 * (i : Int) + 4096 := by unfold mx; split <;> omega
  have ht := endT_bd _ _ _ _ _ (sums_small hT.hC.1 hT.hC.2 hT.hc) (sums_up hT.hc) hst.1 hb.1 hx
  have lE := h.lE
  refine ⟨by simp [h.lA], by simp [h.lB], by simp [h.lD], by simp [h.lE], fun j hj => ?_, fun j hj => ?_, by omega, fun j hj => ?_⟩
  · by_cases hji : j < i
    · rw [rd_app_lt A _ j (by rw [h.lA]; exact hji)]; exact h.rA j hji
    · obtain rfl : j = i := by omega
      exact rd_app_eq A _ _ h.lA.symm
  · by_cases hji : j < i
    · rw [rd_app_lt E _ j (by rw [lE]; exact hji)]; exact h.rE j hji
    · obtain rfl : j = i := by omega
      rw [rd_app_eq E _ _ lE.symm]; omega
  · obtain rfl : j = i := by omega
    exact rd_app_eq E _ _ lE.symm
theorem bound_l0 (P : Nat) (A B D E : List Int) (a4 : Int) (hP : 1 ≤ P ∧ P ≤ 4096) (lA : A.length = E.length) (hl : E.length ≤ 4096) (rA : ∀ j : Nat, j < E.length → rd A (j : Int) = (((j + 1) * P : Nat) : Int))
    (rE : ∀ j : Nat, j < E.length → 0 ≤ rd E (j : Int) ∧ rd E (j : Int) ≤ 1099511627776) : ∀ m i k : Nat, i + m = E.length → m + 1 ≤ k →
    planner_bound.l0 k (bndN P E i) ((i * P : Nat) : Int) E (E.length : Int) (i : Int) A B D E a4 = some (bndN P E E.length) := by
  intro m
  induction m with
  | zero =>
    intro i k hi hk
    obtain ⟨k, rfl⟩ : ∃ k', k = k' + 1 := ⟨k - 1, by omega⟩
    simp only [planner_bound.l0]
    rw [if_neg (by omega), show i = E.length from by omega]
  | succ m ih =>
    intro i k hi hk
    obtain ⟨k, rfl⟩ : ∃ k', k = k' + 1 := ⟨k - 1, by omega⟩
    have hmul : i * P ≤ i * 4096 := Nat.mul_le_mul_left _ hP.2
    have hmul2 : (i + 1) * P = i * P + P := Nat.succ_mul i P
    have hr := rE i (by omega)
    have hA := rA i (by omega)
    have hn := ih (i + 1) k (by omega) (by omega)
    rw [show (((i + 1 : Nat)) : Int) = (i : Int) + 1 from by omega] at hn
    simp only [planner_bound.l0]
    rw [if_pos (show (i : Int) < (E.length : Int) by omega), if_pos (show 0 ≤ (i : Int) by omega), if_pos (show (i : Int) < (E.length : Int) by omega), w64 (rd E (i : Int) - 1) (by omega) (by omega), w64 (rd E (i : Int) - 1 - ((i * P : Nat) : Int)) (by omega) (by omega),
      hA, w64 (rd E (i : Int) - (((i + 1) * P : Nat) : Int)) (by omega) (by omega), w64 ((i : Int) + 1) (by omega) (by omega), w64 ((i : Int) - 1) (by omega) (by omega)]
    by_cases h0 : (i : Int) = 0
    · rw [if_pos h0, if_pos (by omega)]
      have e : bndN P E (i + 1) = mx (bndN P E i) (rd E (i : Int) - 1 - ((i * P : Nat) : Int)) := by
        conv => lhs; unfold bndN
        rw [if_pos (.inl (by omega))]
      have e2 : mx (mx (bndN P E i) (rd E (i : Int) - 1 - ((i * P : Nat) : Int))) (rd E (i : Int) - (((i + 1) * P : Nat) : Int)) = bndN P E (i + 1) := by
        rw [e]; unfold mx; repeat' split
        all_goals omega
      rw [e2]
      exact hn
    · rw [if_neg h0, if_pos (by omega), if_pos (by omega), show ((i : Int) - 1) = ((i - 1 : Nat) : Int) from by omega]
      by_cases hg : rd E (i : Int) > rd E (((i - 1 : Nat)) : Int)
      · rw [if_pos hg, if_pos (by omega)]
        have e : bndN P E (i + 1) = mx (bndN P E i) (rd E (i : Int) - 1 - ((i * P : Nat) : Int)) := by
          conv => lhs; unfold bndN
          rw [if_pos (.inr hg)]
        have e2 : mx (mx (bndN P E i) (rd E (i : Int) - 1 - ((i * P : Nat) : Int))) (rd E (i : Int) - (((i + 1) * P : Nat) : Int)) = bndN P E (i + 1) := by
          rw [e]; unfold mx; repeat' split
          all_goals omega
        rw [e2]
        exact hn
      · rw [if_neg hg, if_pos (by omega)]
        have e : bndN P E (i + 1) = bndN P E i := by
          conv => lhs; unfold bndN
          rw [if_neg (fun h => h.elim (fun h => h0 (by omega)) hg)]
        have hlow := bnd_low P hP.1 E i
        have e2 : mx (bndN P E i) (rd E (i : Int) - (((i + 1) * P : Nat) : Int)) = bndN P E (i + 1) := by
          rw [e] at hlow ⊢; unfold mx; split <;> omega
        rw [e2]
        exact hn
theorem bound_f (P : Nat) (A B D E : List Int) (a4 : Int) (hP : 1 ≤ P ∧ P ≤ 4096) (lA : A.length = E.length) (hl : E.length ≤ 4096) (rA : ∀ j : Nat, j < E.length → rd A (j : Int) = (((j + 1) * P : Nat) : Int))
    (rE : ∀ j : Nat, j < E.length → 0 ≤ rd E (j : Int) ∧ rd E (j : Int) ≤ 1099511627776) (k : Nat) (hk : E.length + 1 ≤ k) : planner_bound.f k A B D E a4 = some (bndN P E E.length) := by
  unfold planner_bound.f
  have h := bound_l0 P A B D E a4 hP lA hl rA rE E.length 0 k (by omega) hk
  simpa [bndN] using h
theorem plan_l0 (W C : List Int) (P : Nat) (lat app : Int) (hT : TrOk W C P lat app) (n : Nat) (hn : n ≤ 4096) : ∀ m i k : Nat, ∀ (e : Int) (A B D E : List Int), i + m = n → 2 * m + n + 2 ≤ k → PInv P lat app i e A B D E →
    planner_plan.l0 (sumsOf C) (rd C ((C.length : Int) - 1)) k e (ckAll W P n) (n : Int) (i : Int) W C (P : Int) lat app A B D E 0 = some (outP P (pgo W C P lat app m i e A B D E)) := by
  intro m
  induction m with
  | zero =>
    intro i k e A B D E hi hk hI
    obtain ⟨k, rfl⟩ : ∃ k', k = k' + 1 := ⟨k - 1, by omega⟩
    simp only [planner_plan.l0]
    rw [if_neg (by omega), bound_f P A B D E 0 hT.hP (by rw [hI.lA, hI.lE]) (by rw [hI.lE]; omega) (fun j hj => hI.rA j (by rw [hI.lE] at hj; exact hj)) (fun j hj => hI.rE j (by rw [hI.lE] at hj; exact hj)) k (by rw [hI.lE]; omega)]
    rfl
  | succ m ih =>
    intro i k e A B D E hi hk hI
    obtain ⟨k, rfl⟩ : ∃ k', k = k' + 2 := ⟨k - 2, by omega⟩
    have hlen : (ckAll W P n).length = n := by simp [ckAll]
    have hrd : rd (ckAll W P n) (i : Int) = ckSum W P i := by
      simp only [rd, ckAll, Int.toNat_natCast, List.getD_eq_getElem?_getD, List.getElem?_map, List.getElem?_range (show i < n by omega), Option.map_some, Option.getD_some]
    have hP := hT.hP
    have hmul : (i + 1) * P ≤ (i + 1) * 4096 := Nat.mul_le_mul_left _ hP.2
    have hE : wrap64 (wrap64 ((i : Int) + 1) * (P : Int)) = (((i + 1) * P : Nat) : Int) := by
      rw [w64 ((i : Int) + 1) (by omega) (by omega)]
      have e : ((i : Int) + 1) * (P : Int) = (((i + 1) * P : Nat) : Int) := by rw [Int.natCast_mul]; rfl
      rw [e]
      exact w64 _ (by omega) (by omega)
    have hb := ckSum_bd W P i hT.hW hT.hx
    have h1 := hI.e0
    have hst : 0 ≤ mx (((i + 1) * P : Nat) : Int) e ∧ mx (((i + 1) * P : Nat) : Int) e ≤ 17020000 * (i : Int) + 4096 := by unfold mx; split <;> omega
    simp only [planner_plan.l0, planner_plan.j1, hE, hrd, hlen, pgo]
    rw [if_pos (by omega), if_pos (by omega), if_pos (by omega)]
    unfold endF
    rw [if_pos ⟨hst.1, by omega, hb.1, by omega⟩]
    cases hx : endT (sumsOf C) (rd C ((C.length : Int) - 1)) (mx (((i + 1) * P : Nat) : Int) e) (ckSum W P i) with
    | none => simp [outP]
    | some x =>
      have hI2 := hI.step hT (by omega) hx
      have hx0 := hI2.e0
      have hl := hT.hl
      have ha := hT.ha
      simp only [Option.bind_some, if_true, List.length_singleton]
      rw [if_pos (by rw [hI.lA]; omega), if_pos (by rw [hI.lB]; omega), if_pos (by rw [hI.lD]; omega), if_pos (by rw [hI.lE]; omega), w64 (x + lat) (by omega) (by omega), w64 (x + lat + app) (by omega) (by omega), w64 ((i : Int) + 1) (by omega) (by omega),
        show ((i : Int) + 1) = ((i + 1 : Nat) : Int) from by omega]
      exact ih (i + 1) k x _ _ _ _ (by omega) (by omega) hI2
theorem endF_cases {sums : List Int} {last start size : Int} {v : Int × Bool} (h : endF sums last start size = some v) :
    (v = (0, false) ∧ endT sums last start size = none) ∨ (∃ t, v = (t, true) ∧ endT sums last start size = some t) := by
  unfold endF at h
  split at h
  · split at h
    · rename_i t ht
      exact .inr ⟨t, (Option.some.inj h).symm, ht⟩
    · rename_i ht
      exact .inl ⟨(Option.some.inj h).symm, ht⟩
  · cases h
end Go.Proofs.Ytcflacjidabppaa.Pr

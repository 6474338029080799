/- What small says of a trace; what a link carries from tick to tick; the ends of the transfers of a small trace. -/
import Derived.Test.YtcflacjidabppaaGPlanS
import Derived.Test.YtcflacjidabppaaGSmall
import Derived.Test.YtcflacjidabppaaF24
namespace Go.Proofs.Ytcflacjidabppaa.Pr
open Go.RowKit Go.Proofs.YtcflacjidabppaaW.PrintWords Go.Proofs.YtcflacjidabppaaW.PrintLast Go.Proofs.YtcflacjidabppaaW.PrintMore
set_option linter.unusedVariables false
set_option linter.unusedSimpArgs false

structure SmOk (W C : List Int) (p lat app : Int) : Prop where
  hc : chkV W C p lat app = 0
  hW : W.length ≤ 40
  hC : C.length ≤ 60
  hw : ∀ x ∈ W, 0 ≤ x ∧ x ≤ 20
  hcc : ∀ x ∈ C, 0 ≤ x ∧ x ≤ 20
  hp : p ≤ 60
  hl : lat ≤ 30
  ha : app ≤ 30

theorem bigI_any {l : List Int} (h : l.any bigI = false) : ∀ x ∈ l, 0 ≤ x ∧ x ≤ 20 := by
  intro x hx
  have := List.any_eq_false.1 h x hx
  unfold bigI at this
  simp at this
  omega

theorem small_f (W C : List Int) (p lat app : Int) (k : Nat) (hk : 1 ≤ k) : ∃ b, standbylaw56_small.f k W C p lat app = some b ∧ (b = true → SmOk W C p lat app) := by
  unfold standbylaw56_small.f standbyref56_Few.f
  by_cases h1 : (W.length : Int) ≤ 40
  · rw [if_pos h1, Option.bind_some]
    by_cases h2 : (C.length : Int) ≤ 60
    · rw [decide_eq_true h2, if_pos rfl, planCheck_f W C p lat app k hk, Option.bind_some]
      refine ⟨_, rfl, fun h => ?_⟩
      simp only [Bool.and_eq_true, decide_eq_true_eq, Bool.not_eq_true'] at h
      obtain ⟨a, b, c, d, e, f⟩ := h
      exact ⟨a, by omega, by omega, bigI_any b, bigI_any c, d, e, f⟩
    · rw [decide_eq_false h2, if_neg (by simp)]
      exact ⟨_, rfl, fun h => by cases h⟩
  · rw [if_neg h1, Option.bind_some, if_neg (by simp)]
    exact ⟨_, rfl, fun h => by cases h⟩

/-- What the link carries in tick t. -/
def capV (C : List Int) (t : Int) : Int := rd C (mn t ((C.length : Int) - 1))
theorem capacity_f (W C : List Int) (p lat app t : Int) (hC : 1 ≤ C.length ∧ C.length ≤ 4096) (ht : 0 ≤ t) : standbylaw56_capacity.f W C p lat app t = some (capV C t) := by
  unfold standbylaw56_capacity.f capV
  rw [w64 ((C.length : Int) - 1) (by omega) (by omega)]
  have h : 0 ≤ mn t ((C.length : Int) - 1) ∧ mn t ((C.length : Int) - 1) < (C.length : Int) := by unfold mn; split <;> omega
  rw [if_pos h.1, if_pos h.2]
theorem cap_bef (C : List Int) (hC : 1 ≤ C.length) (t : Int) (ht : 0 ≤ t) : bef (sumsOf C) (rd C ((C.length : Int) - 1)) (t + 1) = bef (sumsOf C) (rd C ((C.length : Int) - 1)) t + capV C t := by
  obtain ⟨a, rfl⟩ := Int.eq_ofNat_of_zero_le ht
  unfold capV mn
  by_cases h : (a : Int) < (C.length : Int)
  · have := bef_step C (rd C ((C.length : Int) - 1)) a (by omega)
    rw [show ((a + 1 : Nat) : Int) = (a : Int) + 1 from by omega] at this
    rw [if_neg (by omega), this]
  · rw [if_pos (by omega), bef_far _ _ (a : Int) ((a : Int) + 1) (by rw [sumsOf_len]; omega) (by omega), show (a : Int) + 1 - (a : Int) = 1 from by omega, Int.one_mul]
theorem capV_bd (C : List Int) (m : Int) (hC : 1 ≤ C.length) (hx : ∀ x ∈ C, 0 ≤ x ∧ x ≤ m) (t : Int) (ht : 0 ≤ t) : 0 ≤ capV C t ∧ capV C t ≤ m := by
  unfold capV
  exact hx _ (rd_mem C _ (by unfold mn; split <;> omega) (by unfold mn; split <;> omega))

/-- A transfer ends soon behind its begin, or behind the link's list. -/
theorem endT_near (sums : List Int) (last start size t : Int) (hS : Small sums last) (hU : Up sums) (h0 : 0 ≤ start) (hz : 0 ≤ size) (h : endT sums last start size = some t) : t ≤ max start ((sums.length : Int) - 1) + size := by
  unfold endT at h
  split at h
  · obtain rfl := Option.some.inj h
    omega
  · rename_i hne
    split at h
    · rename_i r hf
      obtain rfl := Option.some.inj h
      obtain ⟨h1, h2, _⟩ := findT_some _ _ _ _ _ _ hf
      omega
    · rename_i hf
      split at h
      · cases h
      · rename_i hl
        obtain rfl := Option.some.inj h
        have hn := findT_none _ _ _ _ _ hf
        have hm := bef_mono sums last hS hU start (max start ((sums.length : Int) - 1)) h0 (by omega)
        have hp : 0 < last := by have := hS.2.2.2.1; omega
        have hl2 := hS.1
        have hlt : bef sums last (max start ((sums.length : Int) - 1)) < bef sums last start + size := by
          by_cases hc : start ≤ (sums.length : Int) - 1
          · rw [show max start ((sums.length : Int) - 1) = (sums.length : Int) - 1 from by omega]
            exact hn _ (by omega) (by omega)
          · rw [show max start ((sums.length : Int) - 1) = start from by omega]
            omega
        obtain ⟨X, hX⟩ : ∃ X, bef sums last start + size - bef sums last (max start ((sums.length : Int) - 1)) = X := ⟨_, rfl⟩
        rw [hX]
        have hX1 : 1 ≤ X := by omega
        have hX2 : X ≤ size := by omega
        have : (X + last - 1) / last ≤ X := by
          have h5 : (X + last - 1) / last < X + 1 := (Int.ediv_lt_iff_lt_mul hp).2 (by
            have h6 : X * 1 ≤ X * last := Int.mul_le_mul_of_nonneg_left (by omega) (by omega)
            rw [Int.add_mul, Int.one_mul]
            omega)
          omega
        omega

theorem sumB20 (l : List Int) (h : ∀ x ∈ l, 0 ≤ x ∧ x ≤ 20) : 0 ≤ l.sum ∧ l.sum ≤ 20 * (l.length : Int) := by
  induction l with
  | nil => simp
  | cons a r ih =>
    have h1 := h a (List.mem_cons_self ..)
    have h2 := ih (fun x hx => h x (List.mem_cons_of_mem _ hx))
    rw [List.sum_cons, List.length_cons]
    omega
/-- The sum of the first i elements. -/
def pre (W : List Int) (i : Nat) : Int := (W.take i).sum
theorem pre_rd (W : List Int) (i : Nat) (h : i < W.length) : pre W (i + 1) = pre W i + rd W (i : Int) := by
  unfold pre
  rw [take_rd W i h, List.sum_append]
  simp
theorem pre_ck (W : List Int) (P k : Nat) : ckSum W P k = pre W ((k + 1) * P) - pre W (k * P) := by
  unfold ckSum pre
  have e : (k + 1) * P = k * P + P := Nat.succ_mul k P
  rw [e, List.take_add, List.sum_append]
  omega
theorem pre_bd (W : List Int) (h : ∀ x ∈ W, 0 ≤ x ∧ x ≤ 20) (hW : W.length ≤ 40) (i : Nat) : 0 ≤ pre W i ∧ pre W i ≤ 800 := by
  have := sumB20 (W.take i) (fun x hx => h x (List.mem_of_mem_take hx))
  have h2 : (W.take i).length ≤ W.length := by rw [List.length_take]; omega
  unfold pre
  omega
theorem pre_mono (W : List Int) (h : ∀ x ∈ W, 0 ≤ x ∧ x ≤ 20) (i j : Nat) (hij : i ≤ j) : pre W i ≤ pre W j := by
  unfold pre
  obtain ⟨d, rfl⟩ : ∃ d, j = i + d := ⟨j - i, by omega⟩
  rw [List.take_add, List.sum_append]
  have := (sumB20 ((W.drop i).take d) (fun x hx => h x (List.mem_of_mem_drop (List.mem_of_mem_take hx)))).1
  omega
theorem pre_end (W : List Int) (i : Nat) (h : W.length ≤ i) : pre W i = pre W W.length := by
  unfold pre
  rw [List.take_of_length_le h, List.take_of_length_le (Nat.le_refl _)]

/-- A small trace is in order. -/
theorem SmOk.tr {W C : List Int} {p lat app : Int} (h : SmOk W C p lat app) : TrOk W C p.toNat lat app ∧ 1 ≤ p := ⟨(chk_zero h.hc).1, (chk_zero h.hc).2.1⟩

/-- Where the transfers of a small trace end. -/
theorem ends_near {W C : List Int} {p lat app : Int} (h : SmOk W C p lat app) {n : Nat} {A B D E : List Int} (hn : ∀ i, i < n → i * p.toNat ≤ W.length) (hS : PSpec W C p.toNat lat app n A B D E) :
    ∀ j : Nat, j < n → rd D (j : Int) ≤ 100 + pre W ((j + 1) * p.toNat) ∧ rd D (j : Int) ≤ max (rd B (j : Int)) 60 + ckSum W p.toNat j := by
  obtain ⟨hT, hp1⟩ := h.tr
  have sS := sums_small hT.hC.1 hT.hC.2 hT.hc
  have sU := sums_up hT.hc
  have hp := h.hp
  have hC := h.hC
  have hCl : ((sumsOf C).length : Int) = C.length + 1 := by rw [sumsOf_len]; omega
  intro j
  induction j with
  | zero =>
    intro hj
    have hr := hS.rD 0 hj
    have hb := hS.rB 0 hj
    have hst : 0 ≤ mx (((0 + 1) * p.toNat : Nat) : Int) (prevD D 0) := by unfold mx; split <;> omega
    have hk := ckSum_bd W p.toNat 0 hT.hW hT.hx
    have hk2 := pre_ck W p.toNat 0
    have hp0 : pre W (0 * p.toNat) = 0 := by simp [pre]
    have hne := endT_near _ _ _ _ _ sS sU hst hk.1 hr
    have hm : mx (((0 + 1) * p.toNat : Nat) : Int) (prevD D 0) ≤ 60 := by
      have e : prevD D 0 = 0 := rfl
      rw [e, Nat.zero_add, Nat.one_mul]; unfold mx; split <;> omega
    rw [hb]
    omega
  | succ j ih =>
    intro hj
    have hi := ih (by omega)
    have hr := hS.rD (j + 1) hj
    have hb := hS.rB (j + 1) hj
    have hst : 0 ≤ mx (((j + 1 + 1) * p.toNat : Nat) : Int) (prevD D (j + 1)) := by unfold mx; split <;> omega
    have hk := ckSum_bd W p.toNat (j + 1) hT.hW hT.hx
    have hk2 := pre_ck W p.toNat (j + 1)
    have hne := endT_near _ _ _ _ _ sS sU hst hk.1 hr
    have hpre := (pre_bd W h.hw h.hW ((j + 1) * p.toNat)).1
    have hmul : (j + 1 + 1) * p.toNat = (j + 1) * p.toNat + p.toNat := Nat.succ_mul (j + 1) p.toNat
    have hle := hn (j + 1) hj
    have hWl := h.hW
    have hm : mx (((j + 1 + 1) * p.toNat : Nat) : Int) (prevD D (j + 1)) ≤ max 100 (rd D (j : Int)) := by
      have e : prevD D (j + 1) = rd D (j : Int) := by unfold prevD; rw [if_neg (by omega), show j + 1 - 1 = j from by omega]
      rw [e]; unfold mx; split <;> omega
    rw [hb]
    omega
end Go.Proofs.Ytcflacjidabppaa.Pr

/- The reference's finish and Size tell the same as the carrier's end and the sizes. -/
import Derived.Test.YtcflacjidabppaaF38
import Derived.Test.YtcflacjidabppaaF39
import Derived.Test.YtcflacjidabppaaGPureQ
namespace Go.Proofs.Ytcflacjidabppaa.Pr
open Go.RowKit Go.Proofs.YtcflacjidabppaaW.PrintWords Go.Proofs.YtcflacjidabppaaW.PrintLast Go.Proofs.YtcflacjidabppaaW.PrintMore
set_option linter.unusedVariables false
set_option linter.unusedSimpArgs false
theorem refSize_l0 (W C : List Int) (P : Nat) (q r : Int) (i : Nat) (hP : 1 ≤ P ∧ P ≤ 4096) (hW : W.length ≤ 4096) (hx : ∀ x ∈ W, 0 ≤ x ∧ x ≤ 4096) (hi : i * P ≤ W.length) :
    ∀ m (j k : Nat) (acc : Int), j + m = min ((i + 1) * P) W.length → m + 1 ≤ k → 0 ≤ acc → acc ≤ 4096 * (j : Int) →
    standbyref56_Size.l0 k (i : Int) acc (j : Int) W C (P : Int) q r = some (acc + ((W.drop j).take m).sum) := by
  have hi2 : i ≤ 4096 := Nat.le_trans (Nat.le_mul_of_pos_right i hP.1) (Nat.le_trans hi hW)
  have hE : wrap64 (wrap64 ((i : Int) + 1) * (P : Int)) = (((i + 1) * P : Nat) : Int) := by
    rw [w64 ((i : Int) + 1) (by omega) (by omega)]
    have e : ((i : Int) + 1) * (P : Int) = (((i + 1) * P : Nat) : Int) := by rw [Int.natCast_mul]; rfl
    have e2 : (i + 1) * P = i * P + P := Nat.succ_mul i P
    rw [e]
    exact w64 _ (by omega) (by omega)
  intro m
  induction m with
  | zero =>
    intro j k acc hj hk h0 h1
    obtain ⟨k, rfl⟩ : ∃ k', k = k' + 1 := ⟨k - 1, by omega⟩
    simp only [standbyref56_Size.l0, hE, List.take_zero, List.sum_nil, Int.add_zero]
    by_cases h : (j : Int) < (((i + 1) * P : Nat) : Int)
    · rw [if_pos h, if_neg (by omega)]
    · rw [if_neg h]
  | succ m ih =>
    intro j k acc hj hk h0 h1
    obtain ⟨k, rfl⟩ : ∃ k', k = k' + 1 := ⟨k - 1, by omega⟩
    simp only [standbyref56_Size.l0, hE]
    have hr := hx _ (rd_mem W (j : Int) (by omega) (by omega))
    rw [if_pos (by omega), if_pos (by omega), if_pos (by omega), w64 (acc + rd W (j : Int)) (by omega) (by omega), w64 ((j : Int) + 1) (by omega) (by omega), show ((j : Int) + 1) = ((j + 1 : Nat) : Int) from by omega,
      ih (j + 1) k _ (by omega) (by omega) (by omega) (by omega), drop_rd W j (by omega), List.take_succ_cons, List.sum_cons]
    congr 1
    omega
theorem refSize_f (W C : List Int) (P : Nat) (q r : Int) (i k : Nat) (hP : 1 ≤ P ∧ P ≤ 4096) (hW : W.length ≤ 4096) (hx : ∀ x ∈ W, 0 ≤ x ∧ x ≤ 4096) (hi : i * P ≤ W.length) (hk : W.length + 2 ≤ k) :
    standbyref56_Size.f k W C (P : Int) q r (i : Int) = some (ckSum W P i) := by
  unfold standbyref56_Size.f ckSum
  have hi2 : i ≤ 4096 := Nat.le_trans (Nat.le_mul_of_pos_right i hP.1) (Nat.le_trans hi hW)
  have e : (i : Int) * (P : Int) = ((i * P : Nat) : Int) := by rw [Int.natCast_mul]
  have e2 : (i + 1) * P = i * P + P := Nat.succ_mul i P
  rw [e, w64 _ (by omega) (by omega), refSize_l0 W C P q r i hP hW hx hi (min ((i + 1) * P) W.length - i * P) (i * P) k 0 (by omega) (by omega) (by omega) (by omega), Int.zero_add]
  congr 2
  rw [List.take_eq_take_iff, List.length_drop]
  omega
/-- What finish is to answer. -/
def FinOk (C : List Int) (last start size : Int) (o : Option (Int × Bool)) : Prop :=
  (∃ t, o = some (t, true) ∧ EndsAt (sumsOf C) last start size t) ∨ (o = some (0, false) ∧ ∀ u, start ≤ u → bef (sumsOf C) last u < bef (sumsOf C) last start + size)
theorem fin_j1 (W C : List Int) (p q r : Int) (start size0 : Int) (hC : 1 ≤ C.length ∧ C.length ≤ 4096) (hx : ∀ x ∈ C, 0 ≤ x ∧ x ≤ 4096) (k a : Nat) (size : Int) (hk : 1 ≤ k) (ha : start ≤ (a : Int)) (ha2 : (a : Int) ≤ 1099511627776)
    (hs : size = size0 - (bef (sumsOf C) (rd C ((C.length : Int) - 1)) (a : Int) - bef (sumsOf C) (rd C ((C.length : Int) - 1)) start)) (hb : size ≤ 17000000) (h0 : 0 ≤ start)
    (hex : size ≤ 0 ∨ C.length ≤ a) (hlow : ∀ u, start ≤ u → u < (a : Int) → bef (sumsOf C) (rd C ((C.length : Int) - 1)) u < bef (sumsOf C) (rd C ((C.length : Int) - 1)) start + size0) :
    FinOk C (rd C ((C.length : Int) - 1)) start size0 (standbyref56_finish.j1 k size (a : Int) W C p q r) := by
  obtain ⟨k, rfl⟩ : ∃ k', k = k' + 1 := ⟨k - 1, by omega⟩
  simp only [standbyref56_finish.j1]
  by_cases hz : size ≤ 0
  · rw [if_pos hz]
    exact .inl ⟨_, rfl, ha, by omega, hlow⟩
  rw [if_neg hz]
  have hL := hx _ (rd_mem C ((C.length : Int) - 1) (by omega) (by omega))
  rw [w64 ((C.length : Int) - 1) (by omega) (by omega), if_pos (by omega), if_pos (by omega)]
  have hfar : ∀ u, (a : Int) ≤ u → bef (sumsOf C) (rd C ((C.length : Int) - 1)) u = bef (sumsOf C) (rd C ((C.length : Int) - 1)) (a : Int) + (u - (a : Int)) * rd C ((C.length : Int) - 1) :=
    fun u hu => bef_far _ _ _ _ (by rw [sumsOf_len]; omega) hu
  obtain ⟨L, hLe⟩ : ∃ L, rd C ((C.length : Int) - 1) = L := ⟨_, rfl⟩
  rw [hLe] at hL hfar hs hlow ⊢
  by_cases hl : L = 0
  · rw [if_pos hl]
    refine .inr ⟨rfl, fun u hu => ?_⟩
    by_cases hua : u < (a : Int)
    · exact hlow u hu hua
    · rw [hfar u (by omega), hl, Int.mul_zero, ← hl]
      omega
  · rw [if_neg hl]
    refine .inl ⟨(a : Int) + (size + L - 1) / L, ?_, ?_⟩
    · have hd0 : 0 ≤ (size + L - 1) / L := Int.ediv_nonneg (by omega) (by omega)
      have hd1 : (size + L - 1) / L ≤ size + L - 1 := Int.ediv_le_self _ (by omega)
      rw [w64 (size + L) (by omega) (by omega), w64 (size + L - 1) (by omega) (by omega), Int.tdiv_eq_ediv_of_nonneg (by omega), w64 ((size + L - 1) / L) (by omega) (by omega), w64 _ (by omega) (by omega)]
    · have hd0 : 0 ≤ (size + L - 1) / L := Int.ediv_nonneg (by omega) (by omega)
      obtain ⟨c, hc⟩ : ∃ c, (size + L - 1) / L = c := ⟨_, rfl⟩
      have h1 := Int.mul_ediv_add_emod (size + L - 1) L
      have h2 := Int.emod_nonneg (size + L - 1) hl
      have h3 := Int.emod_lt_of_pos (size + L - 1) (show 0 < L by omega)
      rw [hc] at h1 hd0 ⊢
      rw [Int.mul_comm L c] at h1
      refine ⟨by omega, ?_, fun u hu hlt => ?_⟩
      · rw [hfar ((a : Int) + c) (by omega), show (a : Int) + c - (a : Int) = c from by omega]
        omega
      · by_cases hua : u < (a : Int)
        · exact hlow u hu hua
        · rw [hfar u (by omega)]
          have h4 : (u - (a : Int)) * L ≤ (c - 1) * L := Int.mul_le_mul_of_nonneg_right (by omega) (by omega)
          rw [Int.sub_mul c 1 L, Int.one_mul] at h4
          omega
theorem fin_l0 (W C : List Int) (p q r : Int) (start size0 : Int) (hC : 1 ≤ C.length ∧ C.length ≤ 4096) (hx : ∀ x ∈ C, 0 ≤ x ∧ x ≤ 4096) (h0 : 0 ≤ start) (hs1 : size0 ≤ 17000000) : ∀ (m k a : Nat) (size : Int), C.length ≤ a + m → m + 2 ≤ k → start ≤ (a : Int) → (a : Int) ≤ 549755813888 + (C.length : Int) - m →
    size = size0 - (bef (sumsOf C) (rd C ((C.length : Int) - 1)) (a : Int) - bef (sumsOf C) (rd C ((C.length : Int) - 1)) start) → size ≤ 17000000 → -5000 ≤ size →
    (∀ u, start ≤ u → u < (a : Int) → bef (sumsOf C) (rd C ((C.length : Int) - 1)) u < bef (sumsOf C) (rd C ((C.length : Int) - 1)) start + size0) →
    FinOk C (rd C ((C.length : Int) - 1)) start size0 (standbyref56_finish.l0 k size (a : Int) W C p q r) := by
  intro m
  induction m with
  | zero =>
    intro k a size ha hk hsa ha2 hs hb hb2 hlow
    obtain ⟨k, rfl⟩ : ∃ k', k = k' + 1 := ⟨k - 1, by omega⟩
    simp only [standbyref56_finish.l0]
    rw [if_neg (by omega)]
    exact fin_j1 W C p q r start size0 hC hx k a size (by omega) hsa (by omega) hs hb h0 (.inr (by omega)) hlow
  | succ m ih =>
    intro k a size ha hk hsa ha2 hs hb hb2 hlow
    obtain ⟨k, rfl⟩ : ∃ k', k = k' + 1 := ⟨k - 1, by omega⟩
    simp only [standbyref56_finish.l0]
    by_cases hl : (a : Int) < (C.length : Int)
    · rw [if_pos hl]
      by_cases hz : size > 0
      · have hr := hx _ (rd_mem C (a : Int) (by omega) hl)
        have hst := bef_step C (rd C ((C.length : Int) - 1)) a (by omega)
        rw [if_pos hz, if_pos (by omega), w64 (size - rd C (a : Int)) (by omega) (by omega), w64 ((a : Int) + 1) (by omega) (by omega), show ((a : Int) + 1) = ((a + 1 : Nat) : Int) from by omega]
        refine ih k (a + 1) _ (by omega) (by omega) (by omega) (by omega) (by omega) (by omega) (by omega) (fun u h1 h2 => ?_)
        by_cases hu : u = (a : Int)
        · rw [hu]; omega
        · exact hlow u h1 (by omega)
      · rw [if_neg hz]
        exact fin_j1 W C p q r start size0 hC hx k a size (by omega) hsa (by omega) hs hb h0 (.inl (by omega)) hlow
    · rw [if_neg hl]
      exact fin_j1 W C p q r start size0 hC hx k a size (by omega) hsa (by omega) hs hb h0 (.inr (by omega)) hlow
theorem finish_f (W C : List Int) (p q r start size : Int) (k : Nat) (hC : 1 ≤ C.length ∧ C.length ≤ 4096) (hx : ∀ x ∈ C, 0 ≤ x ∧ x ≤ 4096) (h0 : 0 ≤ start) (h1 : start ≤ 549755813888) (hz : 0 ≤ size) (hz1 : size ≤ 17000000) (hk : C.length + 2 ≤ k) :
    ∃ v, standbyref56_finish.f k W C p q r start size = some v ∧ endF (sumsOf C) (rd C ((C.length : Int) - 1)) start size = some v := by
  unfold standbyref56_finish.f
  obtain ⟨a, rfl⟩ := Int.eq_ofNat_of_zero_le h0
  have hf := fin_l0 W C p q r (a : Int) size hC hx h0 hz1 C.length k a size (by omega) hk (Int.le_refl _) (by omega) (by omega) hz1 (by omega) (fun u h1 h2 => by omega)
  have hS := sums_small hC.1 hC.2 hx
  have hU := sums_up hx
  unfold endF
  rw [if_pos ⟨h0, h1, hz, hz1⟩]
  rcases hf with ⟨t, e, ht⟩ | ⟨e, hn⟩
  · refine ⟨_, e, ?_⟩
    cases he : endT (sumsOf C) (rd C ((C.length : Int) - 1)) (a : Int) size with
    | some u =>
      have := endT_some _ _ _ _ _ hS hU h0 hz he
      simp only [this.unique ht]
    | none =>
      have := (endT_none _ _ _ _ hS hU h0 hz he).2 t ht.1
      have := ht.2.1
      omega
  · refine ⟨_, e, ?_⟩
    cases he : endT (sumsOf C) (rd C ((C.length : Int) - 1)) (a : Int) size with
    | some u =>
      have hu := endT_some _ _ _ _ _ hS hU h0 hz he
      have := hn u hu.1
      have := hu.2.1
      omega
    | none => rfl
end Go.Proofs.Ytcflacjidabppaa.Pr

/- The law PlannerOrders as a function answers true. -/
import Derived.Test.YtcflacjidabppaaGOrdC
import Derived.Test.YtcflacjidabppaaGAwakeF
import Derived.Test.YtcflacjidabppaaF6
namespace Go.Proofs.Ytcflacjidabppaa.Pr
open Go.RowKit Go.Proofs.YtcflacjidabppaaW.PrintWords Go.Proofs.YtcflacjidabppaaW.PrintLast Go.Proofs.YtcflacjidabppaaW.PrintMore
set_option linter.unusedVariables false
set_option linter.unusedSimpArgs false

section
variable {W C : List Int} {p lat app : Int} {A B D E : List Int} {n : Nat} {bd : Int}

theorem ord_l2 (h : SmOk W C p lat app) (hS : PSpec W C p.toNat lat app n A B D E) (hnW : ∀ i, i < n → i * p.toNat ≤ W.length) (j : Nat) (hj : j < n) (hn : n ≤ 4096) (k : Nat) : ∀ (m : Nat) (i c ls : Int), rd B (j : Int) ≤ i → i + m = rd D (j : Int) →
    c = bef (sumsOf C) (rd C ((C.length : Int) - 1)) i - bef (sumsOf C) (rd C ((C.length : Int) - 1)) (rd B (j : Int)) → (ls = -1 ∨ (rd B (j : Int) ≤ i - 1 ∧ ls = bef (sumsOf C) (rd C ((C.length : Int) - 1)) (i - 1) - bef (sumsOf C) (rd C ((C.length : Int) - 1)) (rd B (j : Int)))) →
    standbylaw56_PlannerOrders.l2 (k + m + 1) (j : Int) (ckSum W p.toNat j) c ls i (n : Int) (j : Int) W C p lat app A B D E bd = standbylaw56_PlannerOrders.l0 k (rd D (j : Int)) (n : Int) ((j + 1 : Nat) : Int) W C p lat app A B D E bd := by
  obtain ⟨hT, hp1⟩ := h.tr
  have sS := sums_small hT.hC.1 hT.hC.2 hT.hc
  have sU := sums_up hT.hc
  have hE := (hS.ends hT j hj).2
  have hb0 := hS.prev_le hj
  have hnear := ends_near h hnW hS j hj
  have hpre := pre_bd W h.hw h.hW ((j + 1) * p.toNat)
  have hsz := ckSum_bd W p.toNat j hT.hW hT.hx
  intro m
  induction m with
  | zero =>
    intro i c ls hi hd hc hls
    have hid : i = rd D (j : Int) := by omega
    simp only [Nat.add_zero, standbylaw56_PlannerOrders.l2]
    rw [if_pos (by omega), if_pos (by rw [hS.lD]; omega), if_neg (by omega), if_neg (by rw [hc, hid]; have := hE.2.1; omega)]
    rw [if_neg ?_, w64 ((j : Int) + 1) (by omega) (by omega)]
    · rfl
    · rcases hls with e | ⟨e1, e2⟩
      · omega
      · have := hE.2.2 (i - 1) e1 (by omega)
        omega
  | succ m ih =>
    intro i c ls hi hd hc hls
    have hB0 : 0 ≤ rd B (j : Int) := by omega
    rw [show k + (m + 1) + 1 = (k + m + 1) + 1 from by omega]
    simp only [standbylaw56_PlannerOrders.l2]
    have hst := cap_bef C hT.hC.1 i (by omega)
    have h1 := bef_bound (sumsOf C) (rd C ((C.length : Int) - 1)) (rd B (j : Int)) sS hB0 (by omega)
    have h2 := bef_bound (sumsOf C) (rd C ((C.length : Int) - 1)) i sS (by omega) (by omega)
    have h3 := bef_bound (sumsOf C) (rd C ((C.length : Int) - 1)) (i + 1) sS (by omega) (by omega)
    rw [if_pos (by omega), if_pos (by rw [hS.lD]; omega), if_pos (by omega), capacity_f W C p lat app i hT.hC (by omega), Option.bind_some, w64 (c + capV C i) (by omega) (by omega), w64 (i + 1) (by omega) (by omega)]
    exact ih (i + 1) _ c (by omega) (by omega) (by omega) (.inr ⟨by omega, by rw [hc, show i + 1 - 1 = i from by omega]⟩)

theorem ord_l1 (h : SmOk W C p lat app) (hS : PSpec W C p.toNat lat app n A B D E) (hnW : ∀ i, i < n → i * p.toNat ≤ W.length) (j : Nat) (hj : j < n) (hn : n ≤ 4096) (k : Nat) : ∀ (m i : Nat), j * p.toNat ≤ i → i + m = min ((j + 1) * p.toNat) W.length →
    standbylaw56_PlannerOrders.l1 (k + m + 1) (prevD D j) (j : Int) (pre W i - pre W (j * p.toNat)) 0 (-1) (i : Int) (n : Int) (j : Int) W C p lat app A B D E bd = standbylaw56_PlannerOrders.l2 k (j : Int) (ckSum W p.toNat j) 0 (-1) (rd B (j : Int)) (n : Int) (j : Int) W C p lat app A B D E bd := by
  obtain ⟨hT, hp1⟩ := h.tr
  have hp := h.hp
  have hE := hS.ends hT j hj
  have hE1 := hE.2.1
  have hb0 := hS.prev_le hj
  have hnear := ends_near h hnW hS j hj
  have hpre := pre_bd W h.hw h.hW ((j + 1) * p.toNat)
  have hck := pre_ck W p.toNat j
  have hWl := h.hW
  have hl := hT.hl
  have ha := hT.ha
  have hsz := ckSum_bd W p.toNat j hT.hW hT.hx
  have hmul : (j + 1) * p.toNat = j * p.toNat + p.toNat := Nat.succ_mul j p.toNat
  have hjW := hnW j hj
  have hmn : mn (wrap64 (wrap64 ((j : Int) + 1) * p)) (W.length : Int) = ((min ((j + 1) * p.toNat) W.length : Nat) : Int) := by
    rw [mulE p (by omega) j (by omega)]; unfold mn; split <;> omega
  intro m
  induction m with
  | zero =>
    intro i hi hd
    simp only [Nat.add_zero, standbylaw56_PlannerOrders.l1, hmn]
    have hpi : pre W i = pre W ((j + 1) * p.toNat) := by
      by_cases hc : (j + 1) * p.toNat ≤ W.length
      · rw [show i = (j + 1) * p.toNat from by omega]
      · rw [show i = W.length from by omega, pre_end W ((j + 1) * p.toNat) (by omega)]
    rw [if_neg (by omega), if_pos (by omega), if_pos (by rw [hS.lA]; omega), if_pos (by rw [hS.rA j hj, mulE p (by omega) j (by omega)]), if_pos (by rw [hS.lB]; omega), if_pos (by rw [hS.rB j hj, hS.rA j hj]),
      if_pos (by rw [hS.lD]; omega), if_neg (by have := hE.2.1; omega), w64 (rd D (j : Int) - rd B (j : Int)) (by omega) (by omega), if_neg ?_, if_pos (by rw [hS.lE]; omega), w64 (rd D (j : Int) + lat) (by omega) (by omega), w64 (rd D (j : Int) + lat + app) (by omega) (by omega), if_pos (hS.rE j hj), hpi, ← hck]
    · have := pre_bd W h.hw h.hW (j * p.toNat)
      omega
  | succ m ih =>
    intro i hi hd
    obtain ⟨q, hq⟩ : ∃ q, q = k + m + 1 := ⟨_, rfl⟩
    rw [show k + (m + 1) + 1 = q + 1 from by omega]
    simp only [standbylaw56_PlannerOrders.l1, hmn]
    have hr := pre_rd W i (by omega)
    have h1 := pre_bd W h.hw h.hW i
    have h2 := pre_bd W h.hw h.hW (i + 1)
    have h3 := pre_bd W h.hw h.hW (j * p.toNat)
    rw [if_pos (by omega), if_pos (by omega), if_pos (by omega), w64 (pre W i - pre W (j * p.toNat) + rd W (i : Int)) (by omega) (by omega), w64 ((i : Int) + 1) (by omega) (by omega), show pre W i - pre W (j * p.toNat) + rd W (i : Int) = pre W (i + 1) - pre W (j * p.toNat) from by omega, show (i : Int) + 1 = ((i + 1 : Nat) : Int) from by omega]
    rw [hq]
    exact ih (i + 1) (by omega) (by omega)

theorem ord_l0 (h : SmOk W C p lat app) (hS : PSpec W C p.toNat lat app n A B D E) (hnW : ∀ i, i < n → i * p.toNat ≤ W.length) (hn : n ≤ 4096) : ∀ (m j k : Nat), j + m = n → 3000 * m + 1 ≤ k →
    standbylaw56_PlannerOrders.l0 k (prevD D j) (n : Int) (j : Int) W C p lat app A B D E bd = some true := by
  obtain ⟨hT, hp1⟩ := h.tr
  have hp := h.hp
  intro m
  induction m with
  | zero =>
    intro j k hj hk
    obtain ⟨k, rfl⟩ : ∃ k', k = k' + 1 := ⟨k - 1, by omega⟩
    simp only [standbylaw56_PlannerOrders.l0]
    rw [if_neg (by omega)]
    rfl
  | succ m ih =>
    intro j k hj hk
    have hjn : j < n := by omega
    have hE := hS.ends hT j hjn
    have hnear := ends_near h hnW hS j hjn
    have hpre := pre_bd W h.hw h.hW ((j + 1) * p.toNat)
    have hpre2 := pre_bd W h.hw h.hW (j * p.toNat)
    have hck := pre_ck W p.toNat j
    have hb0 := hS.prev_le hjn
    have hWl := h.hW
    have hmul : (j + 1) * p.toNat = j * p.toNat + p.toNat := Nat.succ_mul j p.toNat
    have hjW := hnW j hjn
    obtain ⟨m1, hm1⟩ : ∃ m1, j * p.toNat + m1 = min ((j + 1) * p.toNat) W.length := ⟨min ((j + 1) * p.toNat) W.length - j * p.toNat, by omega⟩
    obtain ⟨m2, hm2⟩ : ∃ m2 : Nat, rd B (j : Int) + (m2 : Int) = rd D (j : Int) := ⟨(rd D (j : Int) - rd B (j : Int)).toNat, by have := hE.2.1; omega⟩
    obtain ⟨K, hK⟩ : ∃ K, k = (K + m2 + 1) + m1 + 1 + 1 := ⟨k - m1 - m2 - 3, by omega⟩
    subst hK
    have e1 := ord_l1 (bd := bd) h hS hnW j hjn hn (K + m2 + 1) m1 (j * p.toNat) (Nat.le_refl _) hm1
    have e2 := ord_l2 (bd := bd) h hS hnW j hjn hn K m2 (rd B (j : Int)) 0 (-1) (by omega) hm2 (by omega) (.inl rfl)
    simp only [standbylaw56_PlannerOrders.l0]
    rw [if_pos (by omega)]
    have ej : wrap64 ((j : Int) * p) = ((j * p.toNat : Nat) : Int) := by
      have hmul2 : j * p.toNat ≤ 40 := by omega
      have e : (j : Int) * p = ((j * p.toNat : Nat) : Int) := by rw [Int.natCast_mul, show ((p.toNat : Nat) : Int) = p from by omega]
      rw [e]; exact w64 _ (by omega) (by omega)
    rw [Int.sub_self] at e1
    rw [ej, e1, e2]
    have ep : rd D (j : Int) = prevD D (j + 1) := by unfold prevD; rw [if_neg (by omega), show j + 1 - 1 = j from by omega]
    rw [ep]
    exact ih (j + 1) K (by omega) (by omega)
end

theorem PlannerOrders_true (W C : List Int) (p lat app : Int) : ∃ k, standbylaw56_PlannerOrders.f k W C p lat app = some true := by
  refine ⟨20000000, ?_⟩
  unfold standbylaw56_PlannerOrders.f
  obtain ⟨b, hb, hsm⟩ := small_f W C p lat app 20000000 (by omega)
  rw [hb, Option.bind_some]
  cases b with
  | false => rfl
  | true =>
    have h := hsm rfl
    obtain ⟨hT, hp1⟩ := h.tr
    have hp := h.hp
    rw [if_pos rfl, planPlan_f W C p lat app 20000000 (by omega), Option.bind_some]
    rcases planV_cases W C p lat app with ⟨h1, _⟩ | ⟨_, _, e⟩ | ⟨_, A, B, D, E, e, hS⟩
    · exact absurd h.hc h1
    · rw [e]; rfl
    · obtain ⟨hn, hnW⟩ := ckN_le hT
      rw [e]
      simp only [cyc_eq (W := W) (p := p) (by omega) hT.hW, hS.lA, hS.lB, hS.lD, hS.lE]
      rw [if_pos trivial, if_neg (by omega), if_pos trivial, if_pos trivial, if_pos trivial, if_pos trivial]
      exact ord_l0 h hS hnW hn (ckN W.length p.toNat) 0 20000000 (by omega) (by omega)
end Go.Proofs.Ytcflacjidabppaa.Pr

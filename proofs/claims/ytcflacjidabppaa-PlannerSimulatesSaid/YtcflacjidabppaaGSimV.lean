/- The law PlannerSimulates as a function answers true. -/
import Derived.Test.YtcflacjidabppaaGOrdC
import Derived.Test.YtcflacjidabppaaGAwakeF
import Derived.Test.YtcflacjidabppaaGVerify
import Derived.Test.YtcflacjidabppaaF5
namespace Go.Proofs.Ytcflacjidabppaa.Pr
open Go.RowKit Go.Proofs.YtcflacjidabppaaW.PrintWords Go.Proofs.YtcflacjidabppaaW.PrintLast Go.Proofs.YtcflacjidabppaaW.PrintMore
set_option linter.unusedVariables false
set_option linter.unusedSimpArgs false

section
variable {W C : List Int} {p lat app : Int} {A B D E : List Int} {n : Nat} {bd : Int}

/-- What has been received of cycle k before time t. -/
def rcv (W : List Int) (P k : Nat) (t : Int) : Int := pre W (min t.toNat ((k + 1) * P)) - pre W (min t.toNat (k * P))
/-- What is left of cycle k at time t, while its transfer has not ended. -/
def lft (W C B : List Int) (P k : Nat) (t : Int) : Int :=
  if rd B (k : Int) ≤ t then ckSum W P k - (bef (sumsOf C) (rd C ((C.length : Int) - 1)) t - bef (sumsOf C) (rd C ((C.length : Int) - 1)) (rd B (k : Int))) else rcv W P k t

theorem rcv_full (P k : Nat) (t : Int) (h : (((k + 1) * P : Nat) : Int) ≤ t) : rcv W P k t = ckSum W P k := by
  have e : (k + 1) * P = k * P + P := Nat.succ_mul k P
  unfold rcv
  rw [pre_ck, show min t.toNat ((k + 1) * P) = (k + 1) * P from by omega, show min t.toNat (k * P) = k * P from by omega]
theorem rcv_bd (hw : ∀ x ∈ W, 0 ≤ x ∧ x ≤ 20) (hW : W.length ≤ 40) (P k : Nat) (t : Int) : 0 ≤ rcv W P k t ∧ rcv W P k t ≤ 800 := by
  have e : (k + 1) * P = k * P + P := Nat.succ_mul k P
  have h1 := pre_mono W hw (min t.toNat (k * P)) (min t.toNat ((k + 1) * P)) (by omega)
  have h2 := pre_bd W hw hW (min t.toNat ((k + 1) * P))
  have h3 := pre_bd W hw hW (min t.toNat (k * P))
  unfold rcv
  omega
theorem rcv_late (P k : Nat) (a : Nat) (h : W.length ≤ a) : rcv W P k ((a : Int) + 1) = rcv W P k (a : Int) := by
  have key : ∀ M : Nat, pre W (min ((a : Int) + 1).toNat M) = pre W (min (a : Int).toNat M) := by
    intro M
    by_cases hM : M ≤ a
    · rw [show min ((a : Int) + 1).toNat M = M from by omega, show min (a : Int).toNat M = M from by omega]
    · rw [pre_end W (min ((a : Int) + 1).toNat M) (by omega), pre_end W (min (a : Int).toNat M) (by omega)]
  unfold rcv
  rw [key, key]
theorem rcv_step (P k : Nat) (a : Nat) (hP : 1 ≤ P) (h : a < W.length) : rcv W P k ((a : Int) + 1) = rcv W P k (a : Int) + (if a / P = k then rd W (a : Int) else 0) := by
  have e : (k + 1) * P = k * P + P := Nat.succ_mul k P
  have key : ∀ M : Nat, pre W (min ((a : Int) + 1).toNat M) = pre W (min (a : Int).toNat M) + (if a < M then rd W (a : Int) else 0) := by
    intro M
    by_cases hM : a < M
    · rw [if_pos hM, show min ((a : Int) + 1).toNat M = a + 1 from by omega, show min (a : Int).toNat M = a from by omega, pre_rd W a h]
    · rw [if_neg hM, show min ((a : Int) + 1).toNat M = M from by omega, show min (a : Int).toNat M = M from by omega, Int.add_zero]
  have hk : a / P = k ↔ (k * P ≤ a ∧ a < (k + 1) * P) := by
    rw [Nat.div_eq_iff hP]
    omega
  unfold rcv
  rw [key, key]
  by_cases h1 : a / P = k
  · have := hk.1 h1
    rw [if_pos h1, if_pos this.2, if_neg (by omega)]
    omega
  · rw [if_neg h1]
    by_cases h2 : a < k * P
    · rw [if_pos h2, if_pos (by omega)]
      omega
    · rw [if_neg h2, if_neg (fun h3 => h1 (hk.2 ⟨by omega, h3⟩))]
      omega

/-- What is known of the plan of a small trace. -/
structure SimC (W C : List Int) (p lat app : Int) (A B D E : List Int) (n : Nat) : Prop where
  sm : SmOk W C p lat app
  sp : PSpec W C p.toNat lat app n A B D E
  nW : ∀ i, i < n → i * p.toNat ≤ W.length
  cW : W.length ≤ n * p.toNat
  n4 : n ≤ 40

theorem SimC.tr (h : SimC W C p lat app A B D E n) : TrOk W C p.toNat lat app ∧ 1 ≤ p := h.sm.tr
theorem SimC.d0 (h : SimC W C p lat app A B D E n) (k : Nat) (hk : k < n) : (((k + 1) * p.toNat : Nat) : Int) ≤ rd B (k : Int) ∧ rd B (k : Int) ≤ rd D (k : Int) ∧ rd D (k : Int) ≤ 900 ∧ 1 ≤ rd B (k : Int) ∧
    rd E (k : Int) = rd D (k : Int) + lat + app ∧ 0 ≤ lat ∧ lat ≤ 30 ∧ 0 ≤ app ∧ app ≤ 30 ∧ rd E (k : Int) ≤ 960 ∧ k * p.toNat ≤ 40 := by
  obtain ⟨hT, hp1⟩ := h.tr
  have h1 := h.sp.prev_le hk
  have h2 := (h.sp.ends hT k hk).2.1
  have h3 := (ends_near h.sm h.nW h.sp k hk).1
  have h4 := (pre_bd W h.sm.hw h.sm.hW ((k + 1) * p.toNat)).2
  have h5 := h.sp.rE k hk
  have hl := hT.hl
  have ha := hT.ha
  have hl2 := h.sm.hl
  have ha2 := h.sm.ha
  have h6 : (k + 1) * p.toNat = k * p.toNat + p.toNat := Nat.succ_mul k p.toNat
  have h7 := h.nW k hk
  have h8 := h.sm.hW
  omega
theorem SimC.prev (h : SimC W C p lat app A B D E n) (k : Nat) (hk : k < n) : rd B (k : Int) = mx (((k + 1) * p.toNat : Nat) : Int) (prevD D k) := h.sp.rB k hk
theorem SimC.dmono1 (h : SimC W C p lat app A B D E n) (k : Nat) (hk : k + 1 < n) : rd D (k : Int) ≤ rd D ((k + 1 : Nat) : Int) ∧ rd D (k : Int) ≤ rd B ((k + 1 : Nat) : Int) := by
  have h1 := (h.sp.prev_le hk).2
  have h2 := (h.d0 (k + 1) hk).2.1
  have e : prevD D (k + 1) = rd D (k : Int) := by unfold prevD; rw [if_neg (by omega), show k + 1 - 1 = k from by omega]
  omega
theorem SimC.dmono (h : SimC W C p lat app A B D E n) (k m : Nat) (hk : k + m < n) : rd D (k : Int) ≤ rd D ((k + m : Nat) : Int) := by
  induction m with
  | zero => exact Int.le_refl _
  | succ m ih =>
    have h1 := ih (by omega)
    have h2 := (h.dmono1 (k + m) (by omega)).1
    rw [show k + (m + 1) = k + m + 1 from by omega]
    omega
theorem SimC.dle (h : SimC W C p lat app A B D E n) (k m : Nat) (hkm : k ≤ m) (hm : m < n) : rd D (k : Int) ≤ rd D (m : Int) := by
  have := h.dmono k (m - k) (by omega)
  rw [show k + (m - k) = m from by omega] at this
  exact this
theorem SimC.dleB (h : SimC W C p lat app A B D E n) (k m : Nat) (hkm : k < m) (hm : m < n) : rd D (k : Int) ≤ rd B (m : Int) := by
  have h1 := h.dle k (m - 1) (by omega) (by omega)
  have h2 := (h.dmono1 (m - 1) (by omega)).2
  rw [show m - 1 + 1 = m from by omega] at h2
  omega
theorem SimC.at_ (h : SimC W C p lat app A B D E n) (k : Nat) (hk : k < n) (t : Int) (h1 : rd B (k : Int) ≤ t) : (ckSum W p.toNat k - (bef (sumsOf C) (rd C ((C.length : Int) - 1)) t - bef (sumsOf C) (rd C ((C.length : Int) - 1)) (rd B (k : Int))) ≤ 0 ↔ rd D (k : Int) ≤ t) := by
  obtain ⟨hT, hp1⟩ := h.tr
  have hE := (h.sp.ends hT k hk).2
  have h0 := h.d0 k hk
  constructor
  · intro h2
    rcases Int.lt_or_le t (rd D (k : Int)) with h3 | h3
    · have := hE.2.2 t h1 h3
      omega
    · exact h3
  · intro h2
    have := bef_mono (sumsOf C) (rd C ((C.length : Int) - 1)) (sums_small hT.hC.1 hT.hC.2 hT.hc) (sums_up hT.hc) (rd D (k : Int)) t (by omega) h2
    have := hE.2.1
    omega
theorem SimC.lbd (h : SimC W C p lat app A B D E n) (k : Nat) (hk : k < n) (t : Int) (h0 : 0 ≤ t) : ckSum W p.toNat k - (bef (sumsOf C) (rd C ((C.length : Int) - 1)) t - bef (sumsOf C) (rd C ((C.length : Int) - 1)) (rd B (k : Int))) ≤ 16777216 + 4503599644370496 ∧ 0 - 4503599644370496 ≤ ckSum W p.toNat k - (bef (sumsOf C) (rd C ((C.length : Int) - 1)) t - bef (sumsOf C) (rd C ((C.length : Int) - 1)) (rd B (k : Int))) ∨ 1099511627776 < t := by
  obtain ⟨hT, hp1⟩ := h.tr
  by_cases ht : t ≤ 1099511627776
  · have h1 := bef_bound (sumsOf C) (rd C ((C.length : Int) - 1)) t (sums_small hT.hC.1 hT.hC.2 hT.hc) h0 ht
    have h2 := bef_bound (sumsOf C) (rd C ((C.length : Int) - 1)) (rd B (k : Int)) (sums_small hT.hC.1 hT.hC.2 hT.hc) (by have := h.d0 k hk; omega) (by have := h.d0 k hk; omega)
    have h3 := ckSum_bd W p.toNat k hT.hW hT.hx
    exact .inl (by omega)
  · exact .inr (by omega)

/-- The rows of the simulation at time t, when the first j transfers have ended. -/
structure SimR (W C : List Int) (p : Int) (B D : List Int) (n : Nat) (t : Int) (j : Nat) (L X : List Int) : Prop where
  jn : j ≤ n
  lL : L.length = n
  lX : X.length = n
  neg : ∀ k : Nat, k < j → rd L (k : Int) ≤ 0
  pos : ∀ k : Nat, j ≤ k → k < n → rd L (k : Int) = lft W C B p.toNat k t
  don : ∀ k : Nat, k < n → rd X (k : Int) = if k < j then rd D (k : Int) else -1

theorem rd_set (l : List Int) (i : Nat) (v : Int) (hi : i < l.length) (k : Nat) : rd (l.set i v) (k : Int) = if k = i then v else rd l (k : Int) := by
  simp only [rd, Int.toNat_natCast, List.getD_eq_getElem?_getD]
  by_cases h : k = i
  · subst h; simp [hi]
  · rw [if_neg h, List.getElem?_set_ne (fun e => h e.symm)]

theorem sim_l2 (h : SimC W C p lat app A B D E n) (T : Int) (hT0 : 0 ≤ T) (hT1 : T < 3000) (g ex op : Int) (K : Nat) : ∀ (m j : Nat) (L X : List Int), j + m = n → SimR W C p B D n T j L X → (∀ k : Nat, k < j → rd D (k : Int) ≤ T) → (∀ k : Nat, j ≤ k → k < n → T - 1 < rd D (k : Int)) →
    ∃ (q j' : Nat) (X' : List Int), standbylaw56_PlannerSimulates.l2 (K + m + 1) (W.length : Int) (n : Int) L X (j : Int) g ex op T W C p lat app A B D E bd = standbylaw56_PlannerSimulates.j7 (K + q) (W.length : Int) (n : Int) L X' (j' : Int) g ex op T W C p lat app A B D E bd ∧
      SimR W C p B D n T j' L X' ∧ (∀ k : Nat, k < j' → rd D (k : Int) ≤ T) ∧ (∀ k : Nat, j' ≤ k → k < n → T < rd D (k : Int)) := by
  obtain ⟨hTr, hp1⟩ := h.tr
  have hp := h.sm.hp
  have hn4 := h.n4
  intro m
  induction m with
  | zero =>
    intro j L X hj hR hlo hhi
    refine ⟨0, j, X, ?_, hR, hlo, fun k h1 h2 => by omega⟩
    simp only [Nat.add_zero, standbylaw56_PlannerSimulates.l2]
    rw [if_neg (by omega)]
  | succ m ih =>
    intro j L X hj hR hlo hhi
    have hjn : j < n := by omega
    have h0 := h.d0 j hjn
    have hB := h.prev j hjn
    have hpv : prevD D j ≤ T := by
      unfold prevD
      by_cases e : j = 0
      · rw [if_pos e]; exact hT0
      · rw [if_neg e]; exact hlo (j - 1) (by omega)
    rw [show K + (m + 1) + 1 = (K + m + 1) + 1 from by omega]
    simp only [standbylaw56_PlannerSimulates.l2]
    rw [if_pos (by omega), mulE p (by omega) j (by omega)]
    by_cases hc : T ≥ (((j + 1) * p.toNat : Nat) : Int)
    · have hBT : rd B (j : Int) ≤ T := by rw [hB]; unfold mx; split <;> omega
      have hL := hR.pos j (Nat.le_refl _) hjn
      unfold lft at hL
      rw [if_pos hBT] at hL
      have hat := h.at_ j hjn T hBT
      rw [if_pos hc, if_pos (by omega), if_pos (by rw [hR.lL]; omega)]
      by_cases hD : rd D (j : Int) ≤ T
      · have hDT : rd D (j : Int) = T := by have := hhi j (Nat.le_refl _) hjn; omega
        rw [if_pos (by rw [hL]; exact hat.2 hD), if_pos (by rw [hR.lX]; omega), w64 ((j : Int) + 1) (by omega) (by omega), show (j : Int) + 1 = ((j + 1 : Nat) : Int) from by omega, Int.toNat_natCast]
        have hR2 : SimR W C p B D n T (j + 1) L (X.set j T) := by
          refine ⟨by omega, hR.lL, by rw [List.length_set]; exact hR.lX, fun k hk => ?_, fun k h1 h2 => hR.pos k (by omega) h2, fun k hk => ?_⟩
          · by_cases hkj : k = j
            · subst hkj; rw [hL]; exact hat.2 hD
            · exact hR.neg k (by omega)
          · rw [rd_set X j T (by rw [hR.lX]; omega), hR.don k hk]
            by_cases hkj : k = j
            · subst hkj; rw [if_pos rfl, if_pos (by omega), hDT]
            · rw [if_neg hkj]
              by_cases h2 : k < j
              · rw [if_pos h2, if_pos (by omega)]
              · rw [if_neg h2, if_neg (by omega)]
        have hlo2 : ∀ k : Nat, k < j + 1 → rd D (k : Int) ≤ T := by
          intro k hk
          by_cases hkj : k = j
          · subst hkj; exact hD
          · exact hlo k (by omega)
        exact ih (j + 1) L (X.set j T) (by omega) hR2 hlo2 (fun k h1 h2 => hhi k (by omega) h2)
      · rw [if_neg (fun h3 => hD (hat.1 (by rw [← hL]; exact h3)))]
        exact ⟨m + 1, j, X, by rw [show K + m + 1 = K + (m + 1) from by omega], hR, hlo, fun k h1 h2 => by have := h.dle j k h1 h2; omega⟩
    · rw [if_neg hc]
      exact ⟨m + 1, j, X, by rw [show K + m + 1 = K + (m + 1) from by omega], hR, hlo, fun k h1 h2 => by have := h.dle j k h1 h2; omega⟩

/-- How many cycles are applied at time t. -/
def Cnt (E : List Int) (n : Nat) (t : Int) (e : Nat) : Prop := e ≤ n ∧ (∀ k : Nat, k < e → rd E (k : Int) ≤ t) ∧ ∀ k : Nat, e ≤ k → k < n → t < rd E (k : Int)
theorem Cnt.uniq {t : Int} {e e' : Nat} (h : Cnt E n t e) (h' : Cnt E n t e') : e = e' := by
  rcases Nat.lt_trichotomy e e' with hlt | heq | hgt
  · have := h'.2.1 e hlt; have := h.2.2 e (Nat.le_refl _) (by have := h'.1; omega); omega
  · exact heq
  · have := h.2.1 e' hgt; have := h'.2.2 e' (Nat.le_refl _) (by have := h.1; omega); omega

theorem sim_l3 (h : SimC W C p lat app A B D E n) (T : Int) (hT0 : 0 ≤ T) (hT1 : T < 3000) (g : Int) (j : Nat) (L X : List Int) (hR : SimR W C p B D n T j L X) (hlo : ∀ k : Nat, k < j → rd D (k : Int) ≤ T) (hhi : ∀ k : Nat, j ≤ k → k < n → T < rd D (k : Int)) (e : Nat) (he : Cnt E n (T - 1) e) (K : Nat) :
    ∀ (m i ei : Nat), i + m = n → e ≤ ei → ei ≤ n → ei ≤ max i e → (∀ k : Nat, k < ei → rd E (k : Int) ≤ T) → (∀ k : Nat, k < i → ei ≤ k → T < rd E (k : Int)) →
    ∃ e', Cnt E n T e' ∧ standbylaw56_PlannerSimulates.l3 (K + m + 1) (W.length : Int) (n : Int) L X (j : Int) g ((ei * p.toNat : Nat) : Int) ((n : Int) - (ei : Int)) T (n : Int) (i : Int) W C p lat app A B D E bd =
      standbylaw56_PlannerSimulates.l1 K (W.length : Int) (n : Int) L X (j : Int) (mx g (T - ((e' * p.toNat : Nat) : Int))) ((e' * p.toNat : Nat) : Int) ((n : Int) - (e' : Int)) (T + 1) W C p lat app A B D E bd := by
  obtain ⟨hTr, hp1⟩ := h.tr
  have hp := h.sm.hp
  have hn4 := h.n4
  intro m
  induction m with
  | zero =>
    intro i ei hi h1 h2 h3 h4 h5
    have hmul : ei * p.toNat ≤ 40 * 60 := Nat.mul_le_mul (by omega) (by omega)
    refine ⟨ei, ⟨h2, h4, fun k h6 h7 => h5 k (by omega) h6⟩, ?_⟩
    simp only [Nat.add_zero, standbylaw56_PlannerSimulates.l3]
    rw [if_neg (by omega), w64 (T - ((ei * p.toNat : Nat) : Int)) (by omega) (by omega), w64 (T + 1) (by omega) (by omega)]
  | succ m ih =>
    intro i ei hi h1 h2 h3 h4 h5
    have hin : i < n := by omega
    have h0 := h.d0 i hin
    have hX := hR.don i hin
    have hEm : ∀ k : Nat, k ≤ i → rd E (k : Int) ≤ rd E (i : Int) := fun k hk => by
      have := h.dle k i hk hin
      have := h.d0 k (by omega)
      omega
    rw [show K + (m + 1) + 1 = (K + m + 1) + 1 from by omega]
    simp only [standbylaw56_PlannerSimulates.l3]
    rw [if_pos (by omega), if_pos (by omega), if_pos (by rw [hR.lX]; omega), w64 ((i : Int) + 1) (by omega) (by omega), show (i : Int) + 1 = ((i + 1 : Nat) : Int) from by omega]
    have stay : rd E (i : Int) ≠ T → ∃ e', Cnt E n T e' ∧ standbylaw56_PlannerSimulates.l3 (K + m + 1) (W.length : Int) (n : Int) L X (j : Int) g ((ei * p.toNat : Nat) : Int) ((n : Int) - (ei : Int)) T (n : Int) ((i + 1 : Nat) : Int) W C p lat app A B D E bd =
      standbylaw56_PlannerSimulates.l1 K (W.length : Int) (n : Int) L X (j : Int) (mx g (T - ((e' * p.toNat : Nat) : Int))) ((e' * p.toNat : Nat) : Int) ((n : Int) - (e' : Int)) (T + 1) W C p lat app A B D E bd := by
      intro hne
      refine ih (i + 1) ei (by omega) h1 h2 (by omega) h4 (fun k h6 h7 => ?_)
      by_cases hki : k = i
      · subst hki
        have := he.2.2 k (by omega) hin
        omega
      · exact h5 k (by omega) h7
    by_cases hij : i < j
    · rw [if_pos hij] at hX
      rw [if_pos (by omega), hX, w64 (rd D (i : Int) + lat) (by omega) (by omega), w64 (rd D (i : Int) + lat + app) (by omega) (by omega)]
      by_cases hE : rd D (i : Int) + lat + app = T
      · have hei : ei = i := by
          have h6 : i ≤ ei := by
            rcases Nat.lt_or_ge ei i with h7 | h7
            · have := h5 ei h7 (Nat.le_refl _); have := hEm ei (by omega); omega
            · exact h7
          have h8 : e ≤ i := by
            rcases Nat.lt_or_ge i e with h7 | h7
            · have := he.2.1 i h7; omega
            · exact h7
          omega
        subst hei
        have hm := mulE p (by omega) ei (by omega)
        rw [w64 ((ei : Int) + 1) (by omega) (by omega), show (ei : Int) + 1 = ((ei + 1 : Nat) : Int) from by omega] at hm
        rw [if_pos hE, hm, w64 ((n : Int) - (ei : Int) - 1) (by omega) (by omega), show (n : Int) - (ei : Int) - 1 = (n : Int) - ((ei + 1 : Nat) : Int) from by omega]
        refine ih (ei + 1) (ei + 1) (by omega) (by omega) (by omega) (by omega) (fun k hk => ?_) (fun k h6 h7 => by omega)
        have := hEm k (by omega)
        omega
      · rw [if_neg hE]
        exact stay (by omega)
    · rw [if_neg hij] at hX
      rw [if_neg (by omega)]
      exact stay (by have := hhi i (by omega) hin; omega)

/-- What is left between the writes of a tick and the link's work in it. -/
theorem sim_mid (h : SimC W C p lat app A B D E n) (T : Int) (hT : 1 ≤ T) (j : Nat) (L X : List Int) (hR : SimR W C p B D n (T - 1) j L X) (hlo : ∀ k : Nat, k < j → rd D (k : Int) ≤ T - 1) (hhi : ∀ k : Nat, j ≤ k → k < n → T - 1 < rd D (k : Int)) (k : Nat) (hk : j ≤ k) (hkn : k < n) (v : Int)
    (hv : v = if rd B (k : Int) ≤ T - 1 then ckSum W p.toNat k - (bef (sumsOf C) (rd C ((C.length : Int) - 1)) (T - 1) - bef (sumsOf C) (rd C ((C.length : Int) - 1)) (rd B (k : Int))) else rcv W p.toNat k T) :
    (k = j → (((j + 1) * p.toNat : Nat) : Int) ≤ T - 1 → 0 < v ∧ v ≤ 16777216 ∧ v - capV C (T - 1) = lft W C B p.toNat k T) ∧ (¬ (k = j ∧ (((j + 1) * p.toNat : Nat) : Int) ≤ T - 1) → v = lft W C B p.toNat k T) := by
  obtain ⟨hTr, hp1⟩ := h.tr
  have h0 := h.d0 k hkn
  have hB := h.prev k hkn
  constructor
  · intro e hcl
    subst e
    have hpv : prevD D k ≤ T - 1 := by
      unfold prevD
      by_cases e : k = 0
      · rw [if_pos e]; omega
      · rw [if_neg e]; exact hlo (k - 1) (by omega)
    have hBT : rd B (k : Int) ≤ T - 1 := by rw [hB]; unfold mx; split <;> omega
    rw [if_pos hBT] at hv
    have hat := h.at_ k hkn (T - 1) hBT
    have hD := hhi k (Nat.le_refl _) hkn
    have hmono := bef_mono (sumsOf C) (rd C ((C.length : Int) - 1)) (sums_small hTr.hC.1 hTr.hC.2 hTr.hc) (sums_up hTr.hc) (rd B (k : Int)) (T - 1) (by omega) hBT
    have hck := ckSum_bd W p.toNat k hTr.hW hTr.hx
    have hst := cap_bef C hTr.hC.1 (T - 1) (by omega)
    rw [show T - 1 + 1 = T from by omega] at hst
    refine ⟨?_, by omega, ?_⟩
    · rcases Int.lt_or_le 0 v with h1 | h1
      · exact h1
      · have := hat.1 (by omega); omega
    · unfold lft
      rw [if_pos (by omega)]
      omega
  · intro hne
    have hBT : ¬ rd B (k : Int) ≤ T - 1 := by
      intro hb
      by_cases e : k = j
      · subst e; exact hne ⟨rfl, by omega⟩
      · have := h.dleB j k (by omega) hkn
        have := hhi j (Nat.le_refl _) (by omega)
        omega
    rw [if_neg hBT] at hv
    unfold lft
    by_cases hb : rd B (k : Int) ≤ T
    · rw [if_pos hb, show rd B (k : Int) = T from by omega, Int.sub_self, Int.sub_zero, hv]
      exact rcv_full p.toNat k T (by omega)
    · rw [if_neg hb, hv]

theorem mid_of (h : SimC W C p lat app A B D E n) (T : Int) (k : Nat) : lft W C B p.toNat k (T - 1) = (if rd B (k : Int) ≤ T - 1 then ckSum W p.toNat k - (bef (sumsOf C) (rd C ((C.length : Int) - 1)) (T - 1) - bef (sumsOf C) (rd C ((C.length : Int) - 1)) (rd B (k : Int))) else rcv W p.toNat k (T - 1)) := rfl

/-- Behind the writes of a tick. -/
theorem sim_j3 (h : SimC W C p lat app A B D E n) (T : Int) (hT : 1 ≤ T) (hT1 : T < 3000) (g ex op : Int) (K : Nat) (j : Nat) (L0 L X : List Int) (hR : SimR W C p B D n (T - 1) j L0 X) (hlo : ∀ k : Nat, k < j → rd D (k : Int) ≤ T - 1) (hhi : ∀ k : Nat, j ≤ k → k < n → T - 1 < rd D (k : Int))
    (hL : L.length = n) (hneg : ∀ k : Nat, k < j → rd L (k : Int) ≤ 0) (hmid : ∀ k : Nat, j ≤ k → k < n → rd L (k : Int) = if rd B (k : Int) ≤ T - 1 then ckSum W p.toNat k - (bef (sumsOf C) (rd C ((C.length : Int) - 1)) (T - 1) - bef (sumsOf C) (rd C ((C.length : Int) - 1)) (rd B (k : Int))) else rcv W p.toNat k T) :
    ∃ L', SimR W C p B D n T j L' X ∧ standbylaw56_PlannerSimulates.j3 (K + 2) (W.length : Int) (n : Int) L X (j : Int) g ex op T W C p lat app A B D E bd = standbylaw56_PlannerSimulates.j5 K (W.length : Int) (n : Int) L' X (j : Int) g ex op T W C p lat app A B D E bd := by
  obtain ⟨hTr, hp1⟩ := h.tr
  have hp := h.sm.hp
  have hn4 := h.n4
  have hjn := hR.jn
  have same : (∀ k : Nat, j ≤ k → k < n → ¬ (k = j ∧ (((j + 1) * p.toNat : Nat) : Int) ≤ T - 1)) → SimR W C p B D n T j L X := fun hne =>
    ⟨hjn, hL, hR.lX, hneg, fun k h1 h2 => (sim_mid h T hT j L0 X hR hlo hhi k h1 h2 _ (hmid k h1 h2)).2 (hne k h1 h2), hR.don⟩
  simp only [standbylaw56_PlannerSimulates.j3]
  by_cases hjn2 : j < n
  · rw [if_pos (by omega), w64 (T - 1) (by omega) (by omega), mulE p (by omega) j (by omega)]
    by_cases hc : T - 1 ≥ (((j + 1) * p.toNat : Nat) : Int)
    · obtain ⟨h1, h2, h3⟩ := (sim_mid h T hT j L0 X hR hlo hhi j (Nat.le_refl _) hjn2 _ (hmid j (Nat.le_refl _) hjn2)).1 rfl hc
      have hcap := capV_bd C 20 hTr.hC.1 h.sm.hcc (T - 1) (by omega)
      rw [if_pos hc, if_pos (by omega), if_pos (by rw [hL]; omega), decide_eq_true (show rd L (j : Int) > 0 by omega)]
      simp only [standbylaw56_PlannerSimulates.j4]
      rw [if_pos trivial, if_pos (by omega), if_pos (by rw [hL]; omega), w64 (T - 1) (by omega) (by omega), capacity_f W C p lat app (T - 1) hTr.hC (by omega), Option.bind_some, w64 (rd L (j : Int) - capV C (T - 1)) (by omega) (by omega), Int.toNat_natCast]
      refine ⟨_, ⟨hjn, by rw [List.length_set]; exact hL, hR.lX, fun k hk => ?_, fun k h4 h5 => ?_, hR.don⟩, rfl⟩
      · rw [rd_set L j _ (by omega), if_neg (by omega)]; exact hneg k hk
      · rw [rd_set L j _ (by omega)]
        by_cases hkj : k = j
        · subst hkj; rw [if_pos rfl]; exact h3
        · rw [if_neg hkj]; exact (sim_mid h T hT j L0 X hR hlo hhi k h4 h5 _ (hmid k h4 h5)).2 (fun e => hkj e.1)
    · rw [if_neg hc]
      simp only [standbylaw56_PlannerSimulates.j4]
      rw [if_neg (by simp)]
      exact ⟨L, same (fun k _ _ e => hc e.2), rfl⟩
  · rw [if_neg (by omega)]
    simp only [standbylaw56_PlannerSimulates.j4]
    rw [if_neg (by simp)]
    exact ⟨L, same (fun k h1 h2 e => by omega), rfl⟩

/-- One tick. -/
theorem sim_tick (h : SimC W C p lat app A B D E n) (T : Int) (hT0 : 0 ≤ T) (hT1 : T < 3000) (g : Int) (K : Nat) (j : Nat) (L X : List Int) (hR : SimR W C p B D n (T - 1) j L X) (hlo : ∀ k : Nat, k < j → rd D (k : Int) ≤ T - 1) (hhi : ∀ k : Nat, j ≤ k → k < n → T - 1 < rd D (k : Int)) (e : Nat) (he : Cnt E n (T - 1) e) :
    ∃ (q j' : Nat) (L' X' : List Int) (e' : Nat), standbylaw56_PlannerSimulates.j2 (K + 200) (W.length : Int) (n : Int) L X (j : Int) g ((e * p.toNat : Nat) : Int) ((n : Int) - (e : Int)) T true W C p lat app A B D E bd =
      standbylaw56_PlannerSimulates.l1 (K + q) (W.length : Int) (n : Int) L' X' (j' : Int) (mx g (T - ((e' * p.toNat : Nat) : Int))) ((e' * p.toNat : Nat) : Int) ((n : Int) - (e' : Int)) (T + 1) W C p lat app A B D E bd ∧
      SimR W C p B D n T j' L' X' ∧ (∀ k : Nat, k < j' → rd D (k : Int) ≤ T) ∧ (∀ k : Nat, j' ≤ k → k < n → T < rd D (k : Int)) ∧ Cnt E n T e' := by
  obtain ⟨hTr, hp1⟩ := h.tr
  have hp := h.sm.hp
  have hn4 := h.n4
  have hP : 1 ≤ p.toNat := by omega
  -- behind the writes and the link's work
  have tail : ∀ (K2 : Nat) (L' : List Int), K + 190 ≤ K2 → SimR W C p B D n T j L' X → ∃ (q j' : Nat) (L'' X' : List Int) (e' : Nat), standbylaw56_PlannerSimulates.j5 K2 (W.length : Int) (n : Int) L' X (j : Int) g ((e * p.toNat : Nat) : Int) ((n : Int) - (e : Int)) T W C p lat app A B D E bd =
      standbylaw56_PlannerSimulates.l1 (K + q) (W.length : Int) (n : Int) L'' X' (j' : Int) (mx g (T - ((e' * p.toNat : Nat) : Int))) ((e' * p.toNat : Nat) : Int) ((n : Int) - (e' : Int)) (T + 1) W C p lat app A B D E bd ∧
      SimR W C p B D n T j' L'' X' ∧ (∀ k : Nat, k < j' → rd D (k : Int) ≤ T) ∧ (∀ k : Nat, j' ≤ k → k < n → T < rd D (k : Int)) ∧ Cnt E n T e' := by
    intro K2 L' hK2 hR'
    have hjn := hR'.jn
    obtain ⟨m, hm⟩ : ∃ m, j + m = n := ⟨n - j, by omega⟩
    obtain ⟨K3, rfl⟩ : ∃ K3, K2 = (K3 + m + 1) + 1 := ⟨K2 - m - 2, by omega⟩
    obtain ⟨q, j', X', e1, r1, r2, r3⟩ := sim_l2 (bd := bd) h T hT0 hT1 g ((e * p.toNat : Nat) : Int) ((n : Int) - (e : Int)) K3 m j L' X hm hR' (fun k hk => by have := hlo k hk; omega) hhi
    obtain ⟨K4, hK4⟩ : ∃ K4, K3 + q = (K4 + n + 1) + 1 := ⟨K3 + q - n - 2, by omega⟩
    obtain ⟨e', c1, e2⟩ := sim_l3 (bd := bd) h T hT0 hT1 g j' L' X' r1 r2 r3 e he K4 n 0 e (by omega) (Nat.le_refl _) he.1 (by omega) (fun k hk => by have := he.2.1 k hk; omega) (fun k h1 h2 => by omega)
    refine ⟨K4 - K, j', L', X', e', ?_, r1, r2, r3, c1⟩
    rw [show K + (K4 - K) = K4 from by omega, ← e2]
    simp only [standbylaw56_PlannerSimulates.j5]
    rw [e1, hK4]
    simp only [standbylaw56_PlannerSimulates.j7]
    rfl
  rw [show K + 200 = (K + 199) + 1 from by omega]
  simp only [standbylaw56_PlannerSimulates.j2]
  rw [if_pos trivial]
  by_cases hT : T > 0
  · obtain ⟨a, ha⟩ : ∃ a : Nat, T = (a : Int) + 1 := ⟨(T - 1).toNat, by omega⟩
    have haT : T - 1 = (a : Int) := by omega
    rw [if_pos hT]
    by_cases hn : T ≤ (W.length : Int)
    · have haW : a < W.length := by omega
      obtain ⟨c, hc⟩ : ∃ c, c = a / p.toNat := ⟨_, rfl⟩
      have hca : c ≤ a := by rw [hc]; exact Nat.div_le_self _ _
      have hdiv : wrap64 (Int.tdiv (wrap64 (T - 1)) p) = (c : Int) := by
        rw [w64 (T - 1) (by omega) (by omega), haT, Int.tdiv_eq_ediv_of_nonneg (by omega)]
        have e1 : (a : Int) / p = (c : Int) := by rw [hc, Int.natCast_ediv, show ((p.toNat : Nat) : Int) = p from by omega]
        rw [e1]; exact w64 _ (by omega) (by omega)
      have hcl : c * p.toNat ≤ a ∧ a < (c + 1) * p.toNat := by
        have := (Nat.div_eq_iff hP).1 hc.symm
        have e1 : (c + 1) * p.toNat = c * p.toNat + p.toNat := Nat.succ_mul c p.toNat
        omega
      have hcn : c < n := by
        rcases Nat.lt_or_ge c n with h1 | h1
        · exact h1
        · have := h.cW; have := Nat.mul_le_mul_right p.toNat h1; omega
      have hjc : j ≤ c := by
        rcases Nat.lt_or_ge c j with h1 | h1
        · have := hlo c h1; have := h.d0 c hcn; omega
        · exact h1
      have hB := h.d0 c hcn
      have hLc := hR.pos c hjc hcn
      rw [mid_of h, if_neg (by omega)] at hLc
      have hrb := rcv_bd h.sm.hw h.sm.hW p.toNat c (T - 1)
      have hrd := h.sm.hw _ (rd_mem W (a : Int) (by omega) (by omega))
      rw [if_pos hn, if_neg (by omega), hdiv, if_pos (by omega), if_pos (by rw [hR.lL]; omega), w64 (T - 1) (by omega) (by omega), if_pos (by omega), if_pos (by omega), haT, w64 (rd L (c : Int) + rd W (a : Int)) (by omega) (by omega), Int.toNat_natCast]
      obtain ⟨L', r, e1⟩ := sim_j3 (bd := bd) h T (by omega) hT1 g ((e * p.toNat : Nat) : Int) ((n : Int) - (e : Int)) (K + 197) j L (L.set c (rd L (c : Int) + rd W (a : Int))) X hR hlo hhi (by rw [List.length_set]; exact hR.lL) (fun k hk => by
        rw [rd_set L c _ (by rw [hR.lL]; omega), if_neg (by omega)]; exact hR.neg k hk) (fun k h1 h2 => by
        rw [rd_set L c _ (by rw [hR.lL]; omega)]
        have hst := rcv_step (W := W) p.toNat k a hP haW
        rw [← hc] at hst
        by_cases hkc : k = c
        · subst hkc
          rw [if_pos rfl, if_neg (by omega), hLc, haT, ha, hst, if_pos rfl]
        · rw [if_neg hkc, hR.pos k h1 h2, mid_of h]
          split
          · rfl
          · rw [haT, ha, hst, if_neg (fun e => hkc e.symm), Int.add_zero])
      obtain ⟨q, j', L'', X', e', t1, t2⟩ := tail (K + 197) L' (by omega) r
      refine ⟨q, j', L'', X', e', ?_, t2⟩
      rw [← t1, ← e1]
    · rw [if_neg hn]
      obtain ⟨L', r, e1⟩ := sim_j3 (bd := bd) h T (by omega) hT1 g ((e * p.toNat : Nat) : Int) ((n : Int) - (e : Int)) (K + 197) j L L X hR hlo hhi hR.lL hR.neg (fun k h1 h2 => by
        rw [hR.pos k h1 h2, mid_of h]
        split
        · rfl
        · rw [haT, ha, rcv_late p.toNat k a (by omega)])
      obtain ⟨q, j', L'', X', e', t1, t2⟩ := tail (K + 197) L' (by omega) r
      refine ⟨q, j', L'', X', e', ?_, t2⟩
      rw [← t1, ← e1]
  · obtain rfl : T = 0 := by omega
    rw [if_neg hT]
    obtain ⟨q, j', L'', X', e', t1, t2⟩ := tail (K + 199) L (by omega) ⟨hR.jn, hR.lL, hR.lX, hR.neg, fun k h1 h2 => by
      have h0 := h.d0 k h2
      rw [hR.pos k h1 h2]
      unfold lft
      rw [if_neg (by omega), if_neg (by omega)]
      rfl, hR.don⟩
    exact ⟨q, j', L'', X', e', t1, t2⟩

/-- The greatest age so far. -/
def Grt (E : List Int) (P n : Nat) (T g : Int) : Prop := 0 ≤ g ∧ (∀ (t : Int) (c : Nat), 0 ≤ t → t < T → Cnt E n t c → t - ((c * P : Nat) : Int) ≤ g) ∧ (g = 0 ∨ 0 < n ∧ ∃ (t : Int) (c : Nat), 0 ≤ t ∧ t < T ∧ Cnt E n t c ∧ g = t - ((c * P : Nat) : Int) ∧ (c = n → t ≤ rd E ((n - 1 : Nat) : Int)))

theorem sim_end (h : SimC W C p lat app A B D E n) (hbd : bd = bndN p.toNat E E.length) (K : Nat) (T g : Int) (j : Nat) (L X : List Int) (hK : 100 ≤ K) (hR : SimR W C p B D n (T - 1) j L X) (hhi : ∀ k : Nat, j ≤ k → k < n → T - 1 < rd D (k : Int)) (he : Cnt E n (T - 1) n) (hg : Grt E p.toNat n T g) :
    standbylaw56_PlannerSimulates.j2 K (W.length : Int) (n : Int) L X (j : Int) g ((n * p.toNat : Nat) : Int) 0 T false W C p lat app A B D E bd = some true := by
  obtain ⟨hTr, hp1⟩ := h.tr
  obtain ⟨hg0, hg1, hg2⟩ := hg
  have hn4 := h.n4
  obtain ⟨K, rfl⟩ : ∃ K', K = K' + 1 := ⟨K - 1, by omega⟩
  have hEm : ∀ k m : Nat, k ≤ m → m < n → rd E (k : Int) ≤ rd E (m : Int) := fun k m hk hm => by
    have := h.dle k m hk hm
    have := h.d0 k (by omega)
    have := h.d0 m hm
    omega
  have hjn : j = n := by
    rcases Nat.lt_or_ge j n with h1 | h1
    · have := hhi j (Nat.le_refl _) h1; have := he.2.1 j h1; have := h.d0 j h1; omega
    · have := hR.jn; omega
  have hDX : D = X := by
    refine List.ext_getElem (by rw [h.sp.lD, hR.lX]) (fun i h1 h2 => ?_)
    have hd := hR.don i (by rw [← hR.lX]; exact h2)
    rw [if_pos (by rw [hjn, ← hR.lX]; exact h2)] at hd
    simp only [rd, Int.toNat_natCast, List.getD_eq_getElem?_getD, List.getElem?_eq_getElem h1, List.getElem?_eq_getElem h2, Option.getD_some] at hd
    exact hd.symm
  have hbg : bd = g := by
    rw [hbd]
    have lE := h.sp.lE
    refine Int.le_antisymm ?_ ?_
    · rcases bndN_at p.toNat E E.length with e0 | ⟨i, h1, h2, h3⟩
      · omega
      · have hd := h.d0 i (by omega)
        have hEl := he.2.1 i (by omega)
        rw [h3]
        refine hg1 (rd E (i : Int) - 1) i (by omega) (by omega) ⟨by omega, fun k hk => ?_, fun k h4 h5 => by have := hEm i k h4 h5; omega⟩
        rcases h2 with h2 | h2
        · omega
        · have := hEm k (i - 1) (by omega) (by omega); omega
    · rcases hg2 with e0 | ⟨hn0, t, c, h1, h2, h3, h4, h5⟩
      · have := bndN_pos p.toNat E E.length; omega
      · rcases Nat.lt_or_ge c n with h6 | h6
        · have h7 := h3.2.2 c (Nat.le_refl _) h6
          have := bndN_le p.toNat E E.length c (by omega)
          omega
        · have hcn : c = n := by have := h3.1; omega
          subst hcn
          have h7 := h5 rfl
          have := bnd_low p.toNat hTr.hP.1 E (c - 1)
          rw [show c - 1 + 1 = c from by omega] at this
          rw [lE]
          omega
  simp only [standbylaw56_PlannerSimulates.j2]
  rw [if_neg (by simp), if_pos trivial, if_pos hbg, Equal_f D X (by rw [h.sp.lD]; omega) K (by rw [h.sp.lD]; omega), Option.bind_some, decide_eq_true hDX, if_pos rfl]
  rfl

/-- The simulation to its end. -/
theorem sim_l1 (h : SimC W C p lat app A B D E n) (hbd : bd = bndN p.toNat E E.length) : ∀ (m K : Nat) (T g : Int) (j e : Nat) (L X : List Int), 0 ≤ T → (m : Int) + T = 961 → 300 * m + 200 ≤ K → SimR W C p B D n (T - 1) j L X → (∀ k : Nat, k < j → rd D (k : Int) ≤ T - 1) → (∀ k : Nat, j ≤ k → k < n → T - 1 < rd D (k : Int)) → Cnt E n (T - 1) e →
    Grt E p.toNat n T g → standbylaw56_PlannerSimulates.l1 K (W.length : Int) (n : Int) L X (j : Int) g ((e * p.toNat : Nat) : Int) ((n : Int) - (e : Int)) T W C p lat app A B D E bd = some true := by
  have hn4 := h.n4
  have stop : ∀ (K : Nat) (T g : Int) (j e : Nat) (L X : List Int), 200 ≤ K → e = n → SimR W C p B D n (T - 1) j L X → (∀ k : Nat, j ≤ k → k < n → T - 1 < rd D (k : Int)) → Cnt E n (T - 1) e → Grt E p.toNat n T g →
      standbylaw56_PlannerSimulates.l1 K (W.length : Int) (n : Int) L X (j : Int) g ((e * p.toNat : Nat) : Int) ((n : Int) - (e : Int)) T W C p lat app A B D E bd = some true := by
    intro K T g j e L X hK hen hR hhi he hg
    subst hen
    obtain ⟨K, rfl⟩ : ∃ K', K = K' + 1 := ⟨K - 1, by omega⟩
    simp only [standbylaw56_PlannerSimulates.l1, Int.sub_self]
    rw [if_neg (by omega)]
    exact sim_end h hbd K T g j L X (by omega) hR hhi he hg
  intro m
  induction m with
  | zero =>
    intro K T g j e L X hT0 hm hK hR hlo hhi he hg
    refine stop K T g j e L X (by omega) ?_ hR hhi he hg
    rcases Nat.lt_or_ge e n with h1 | h1
    · have := he.2.2 e (Nat.le_refl _) h1; have := h.d0 e h1; omega
    · have := he.1; omega
  | succ m ih =>
    intro K T g j e L X hT0 hm hK hR hlo hhi he hg
    by_cases hen : e = n
    · exact stop K T g j e L X (by omega) hen hR hhi he hg
    · have hel := he.1
      obtain ⟨K1, rfl⟩ : ∃ K1, K = (K1 + 200) + 1 := ⟨K - 201, by omega⟩
      simp only [standbylaw56_PlannerSimulates.l1]
      rw [if_pos (by omega), decide_eq_true (show T < 3000 by omega)]
      obtain ⟨q, j', L', X', e', e1, r1, r2, r3, c1⟩ := sim_tick (bd := bd) h T hT0 (by omega) g K1 j L X hR hlo hhi e he
      rw [e1]
      have e2 : T + 1 - 1 = T := by omega
      obtain ⟨hg0, hg1, hg2⟩ := hg
      refine ih (K1 + q) (T + 1) (mx g (T - ((e' * p.toNat : Nat) : Int))) j' e' L' X' (by omega) (by omega) (by omega) (by rw [e2]; exact r1) (by rw [e2]; exact r2) (by rw [e2]; exact r3) (by rw [e2]; exact c1) ⟨by unfold mx; split <;> omega, fun t c h1 h2 h3 => ?_, ?_⟩
      · by_cases ht : t = T
        · subst ht
          obtain rfl := c1.uniq h3
          unfold mx; split <;> omega
        · have := hg1 t c h1 (by omega) h3
          unfold mx; split <;> omega
      · unfold mx
        split
        · refine .inr ⟨by omega, T, e', hT0, by omega, c1, rfl, fun hc => ?_⟩
          have h4 := he.2.2 e (Nat.le_refl _) (by omega)
          have h5 := h.dle e (n - 1) (by omega) (by omega)
          have h6 := h.d0 e (by omega)
          have h7 := h.d0 (n - 1) (by omega)
          omega
        · rcases hg2 with h1 | ⟨h0, t, c, h1, h2, h3, h4, h5⟩
          · exact .inl h1
          · exact .inr ⟨h0, t, c, h1, by omega, h3, h4, h5⟩

theorem sim_l0 (h : SimC W C p lat app A B D E n) (hbd : bd = bndN p.toNat E E.length) (L : List Int) (hL : L.length = n) (hLz : ∀ k : Nat, k < n → rd L (k : Int) = 0) : ∀ (m i K : Nat) (X : List Int), i + m = n → X.length = n → (∀ k : Nat, k < i → rd X (k : Int) = -1) → m + 400000 ≤ K →
    standbylaw56_PlannerSimulates.l0 K (W.length : Int) (n : Int) L X (n : Int) (i : Int) W C p lat app A B D E bd = some true := by
  obtain ⟨hTr, hp1⟩ := h.tr
  have hn4 := h.n4
  intro m
  induction m with
  | zero =>
    intro i K X hi hX hz hK
    obtain ⟨K, rfl⟩ : ∃ K', K = K' + 1 := ⟨K - 1, by omega⟩
    simp only [standbylaw56_PlannerSimulates.l0]
    rw [if_neg (by omega)]
    have e0 : (n : Int) - ((0 : Nat) : Int) = (n : Int) := by omega
    have := sim_l1 (bd := bd) h hbd 961 K 0 0 0 0 L X (by omega) (by omega) (by omega) ⟨by omega, hL, hX, fun k hk => by omega, fun k h1 h2 => by
      have h0 := h.d0 k h2
      rw [hLz k h2]
      unfold lft
      rw [if_neg (by omega)]
      simp [rcv], fun k hk => by rw [if_neg (by omega)]; exact hz k (by omega)⟩ (fun k hk => by omega) (fun k h1 h2 => by have := h.d0 k h2; omega) ⟨by omega, fun k hk => by omega, fun k h1 h2 => by have := h.d0 k h2; omega⟩
      ⟨Int.le_refl _, fun t c h1 h2 => by omega, .inl rfl⟩
    rw [e0, Nat.zero_mul] at this
    exact this
  | succ m ih =>
    intro i K X hi hX hz hK
    obtain ⟨K, rfl⟩ : ∃ K', K = K' + 1 := ⟨K - 1, by omega⟩
    simp only [standbylaw56_PlannerSimulates.l0]
    rw [if_pos (by omega), if_pos (by omega), if_pos (by omega), w64 ((i : Int) + 1) (by omega) (by omega), show (i : Int) + 1 = ((i + 1 : Nat) : Int) from by omega, Int.toNat_natCast]
    refine ih (i + 1) K _ (by omega) (by rw [List.length_set]; exact hX) (fun k hk => ?_) (by omega)
    rw [rd_set X i _ (by omega)]
    by_cases hki : k = i
    · rw [if_pos hki]
    · rw [if_neg hki]; exact hz k (by omega)
end

theorem PlannerSimulates_true (W C : List Int) (p lat app : Int) : ∃ k, standbylaw56_PlannerSimulates.f k W C p lat app = some true := by
  refine ⟨20000000, ?_⟩
  unfold standbylaw56_PlannerSimulates.f
  obtain ⟨b, hb, hsm⟩ := small_f W C p lat app 20000000 (by omega)
  rw [hb, Option.bind_some]
  cases b with
  | false => rfl
  | true =>
    have h := hsm rfl
    obtain ⟨hT, hp1⟩ := h.tr
    have hp := h.hp
    rw [if_pos rfl, planPlan_f W C p lat app 20000000 (by omega), Option.bind_some]
    rcases planV_cases W C p lat app with ⟨h1, _⟩ | ⟨_, hz, e⟩ | ⟨_, A, B, D, E, e, hS⟩
    · exact absurd h.hc h1
    · rw [e]
      have hC := hT.hC
      simp only
      rw [if_neg (by omega), if_pos trivial, w64 ((C.length : Int) - 1) (by omega) (by omega), if_pos (by omega), if_pos (by omega), if_pos hz]
      rfl
    · obtain ⟨hn, hnW⟩ := ckN_le hT
      have hcW := (ckN_ok W.length p.toNat (by omega)).1
      rw [e]
      simp only [cyc_eq (W := W) (p := p) (by omega) hT.hW, Int.toNat_natCast]
      have hn4 : ckN W.length p.toNat ≤ 40 := by
        have h1 := (ckN_ok W.length p.toNat (by omega)).2
        have hW := h.hW
        by_cases h2 : ckN W.length p.toNat = 0
        · omega
        · have h3 := h1 h2
          have h4 : (ckN W.length p.toNat - 1) * 1 ≤ (ckN W.length p.toNat - 1) * p.toNat := Nat.mul_le_mul_left _ (by omega)
          omega
      rw [if_pos trivial, if_neg (by omega), if_pos (by omega), if_pos (by omega), Option.bind_some, List.length_replicate]
      exact sim_l0 (n := ckN W.length p.toNat) ⟨h, hS, hnW, hcW, hn4⟩ rfl _ (by simp) (fun k hk => by simp [rd, List.getD_eq_getElem?_getD, List.getElem?_replicate, hk]) (ckN W.length p.toNat) 0 20000000 _ (by omega) (by simp) (fun k hk => by omega) (by omega)
end Go.Proofs.Ytcflacjidabppaa.Pr

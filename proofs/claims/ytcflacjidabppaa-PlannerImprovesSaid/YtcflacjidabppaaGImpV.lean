/- The law PlannerImproves as a function answers true. -/
import Derived.Test.YtcflacjidabppaaGOrdC
import Derived.Test.YtcflacjidabppaaGAwakeF
import Derived.Test.YtcflacjidabppaaGClone
import Derived.Test.YtcflacjidabppaaF7
namespace Go.Proofs.Ytcflacjidabppaa.Pr
open Go.RowKit Go.Proofs.YtcflacjidabppaaW.PrintWords Go.Proofs.YtcflacjidabppaaW.PrintLast Go.Proofs.YtcflacjidabppaaW.PrintMore
set_option linter.unusedVariables false
set_option linter.unusedSimpArgs false

theorem mem_rd {l : List Int} {x : Int} (h : x ∈ l) : ∃ i : Nat, i < l.length ∧ x = rd l (i : Int) := by
  obtain ⟨i, hi, e⟩ := List.getElem_of_mem h
  exact ⟨i, hi, by simp [rd, List.getD_eq_getElem?_getD, List.getElem?_eq_getElem hi, e]⟩
theorem rd_set2 (l : List Int) (i : Nat) (v : Int) (hi : i < l.length) (k : Nat) : rd (l.set i v) (k : Int) = if k = i then v else rd l (k : Int) := by
  simp only [rd, Int.toNat_natCast, List.getD_eq_getElem?_getD]
  by_cases h : k = i
  · subst h; simp [hi]
  · rw [if_neg h, List.getElem?_set_ne (fun e => h e.symm)]
theorem chk_mk {W C : List Int} {p lat app : Int} (hW : W.length ≤ 4096) (hw : ∀ x ∈ W, 0 ≤ x ∧ x ≤ 4096) (hC : 1 ≤ C.length ∧ C.length ≤ 4096) (hc : ∀ x ∈ C, 0 ≤ x ∧ x ≤ 4096) (hp : 1 ≤ p ∧ p ≤ 4096) (hl : 0 ≤ lat ∧ lat ≤ 1073741824) (ha : 0 ≤ app ∧ app ≤ 1073741824) : chkV W C p lat app = 0 := by
  unfold chkV
  rw [if_pos ⟨hW, hC.1, hC.2⟩, if_pos]
  refine ⟨?_, ?_, ?_⟩
  · unfold okL; rw [List.all_eq_true]; intro x hx; have := hw x hx; simp; omega
  · unfold okL; rw [List.all_eq_true]; intro x hx; have := hc x hx; simp; omega
  · unfold okP; simp; omega

/-- More carried in each tick: more carried in each stretch. -/
theorem bef_more {C C' : List Int} (hl : C'.length = C.length) (h1 : 1 ≤ C.length) (h : ∀ k : Nat, k < C.length → rd C (k : Int) ≤ rd C' (k : Int)) (a : Int) (ha : 0 ≤ a) : ∀ m : Nat,
    bef (sumsOf C) (rd C ((C.length : Int) - 1)) (a + m) - bef (sumsOf C) (rd C ((C.length : Int) - 1)) a ≤ bef (sumsOf C') (rd C' ((C'.length : Int) - 1)) (a + m) - bef (sumsOf C') (rd C' ((C'.length : Int) - 1)) a := by
  intro m
  induction m with
  | zero => simp
  | succ m ih =>
    have e1 := cap_bef C h1 (a + m) (by omega)
    have e2 := cap_bef C' (by omega) (a + m) (by omega)
    have e3 : capV C (a + m) ≤ capV C' (a + m) := by
      unfold capV
      rw [hl]
      obtain ⟨q, hq⟩ : ∃ q : Nat, mn (a + m) ((C.length : Int) - 1) = (q : Int) := ⟨(mn (a + m) ((C.length : Int) - 1)).toNat, by unfold mn; split <;> omega⟩
      have hq2 : q < C.length := by unfold mn at hq; split at hq <;> omega
      rw [hq]
      exact h q hq2
    rw [show a + ((m + 1 : Nat) : Int) = a + m + 1 from by omega]
    omega

theorem endT_le {C C' : List Int} (hl : C'.length = C.length) (h1 : 1 ≤ C.length ∧ C.length ≤ 4096) (hc : ∀ x ∈ C, 0 ≤ x ∧ x ≤ 4096) (hc' : ∀ x ∈ C', 0 ≤ x ∧ x ≤ 4096) (h : ∀ k : Nat, k < C.length → rd C (k : Int) ≤ rd C' (k : Int)) (s s' z z' x : Int) (hs0 : 0 ≤ s') (hs : s' ≤ s) (hz0 : 0 ≤ z') (hz : z' ≤ z)
    (he : endT (sumsOf C) (rd C ((C.length : Int) - 1)) s z = some x) : ∃ x', endT (sumsOf C') (rd C' ((C'.length : Int) - 1)) s' z' = some x' ∧ x' ≤ x := by
  have sS := sums_small h1.1 h1.2 hc
  have sU := sums_up hc
  have sS' := sums_small (C := C') (by omega) (by omega) hc'
  have sU' := sums_up hc'
  have hE := endT_some _ _ _ _ _ sS sU (by omega) (by omega) he
  have key : bef (sumsOf C') (rd C' ((C'.length : Int) - 1)) s' + z' ≤ bef (sumsOf C') (rd C' ((C'.length : Int) - 1)) x := by
    have h2 := hE.1
    have h3 := bef_more hl h1.1 h s (by omega) (x - s).toNat
    have h4 := bef_mono (sumsOf C') (rd C' ((C'.length : Int) - 1)) sS' sU' s' s hs0 hs
    have h5 := hE.2.1
    rw [show s + ((x - s).toNat : Int) = x from by omega] at h3
    omega
  cases he' : endT (sumsOf C') (rd C' ((C'.length : Int) - 1)) s' z' with
  | none =>
    have := (endT_none _ _ _ _ sS' sU' hs0 hz0 he').2 x (by have := hE.1; omega)
    omega
  | some x' =>
    refine ⟨x', rfl, ?_⟩
    have hE' := endT_some _ _ _ _ _ sS' sU' hs0 hz0 he'
    rcases Int.lt_or_le x x' with h2 | h2
    · have := hE'.2.2 x (by have := hE.1; omega) h2
      omega
    · exact h2

theorem pre_step (W : List Int) (i : Nat) : pre W (i + 1) = pre W i + rd W (i : Int) := by
  by_cases h : i < W.length
  · exact pre_rd W i h
  · rw [pre_end W (i + 1) (by omega), pre_end W i (by omega)]
    simp [rd, List.getD_eq_getElem?_getD, List.getElem?_eq_none (show W.length ≤ i by omega)]
theorem pre_less {W W' : List Int} (h : ∀ k : Nat, rd W' (k : Int) ≤ rd W (k : Int)) (a : Nat) : ∀ m : Nat, pre W' (a + m) - pre W' a ≤ pre W (a + m) - pre W a := by
  intro m
  induction m with
  | zero => simp
  | succ m ih =>
    have e1 := pre_step W (a + m)
    have e2 := pre_step W' (a + m)
    have e3 := h (a + m)
    rw [show a + (m + 1) = a + m + 1 from by omega]
    omega
theorem ck_less {W W' : List Int} (h : ∀ k : Nat, rd W' (k : Int) ≤ rd W (k : Int)) (P k : Nat) : ckSum W' P k ≤ ckSum W P k := by
  have e : (k + 1) * P = k * P + P := Nat.succ_mul k P
  rw [pre_ck, pre_ck, e]
  exact pre_less h (k * P) P

section
variable {W W' C C' : List Int} {P : Nat} {lat lat' app : Int}
/-- A trace with less to do. -/
structure Better (W W' C C' : List Int) (P : Nat) (lat lat' app : Int) : Prop where
  t : TrOk W C P lat app
  t' : TrOk W' C' P lat' app
  lW : W'.length = W.length
  lC : C'.length = C.length
  w : ∀ k : Nat, rd W' (k : Int) ≤ rd W (k : Int)
  c : ∀ k : Nat, k < C.length → rd C (k : Int) ≤ rd C' (k : Int)
  l : lat' ≤ lat

theorem Better.end_ (h : Better W W' C C' P lat lat' app) (i : Nat) (e e' x : Int) (h0 : 0 ≤ e') (hle : e' ≤ e) (hx : endT (sumsOf C) (rd C ((C.length : Int) - 1)) (mx (((i + 1) * P : Nat) : Int) e) (ckSum W P i) = some x) :
    ∃ x', endT (sumsOf C') (rd C' ((C'.length : Int) - 1)) (mx (((i + 1) * P : Nat) : Int) e') (ckSum W' P i) = some x' ∧ x' ≤ x ∧ 0 ≤ x' := by
  have hs0 : 0 ≤ mx (((i + 1) * P : Nat) : Int) e' := by unfold mx; split <;> omega
  obtain ⟨x', h1, h2⟩ := endT_le h.lC h.t.hC h.t.hc h.t'.hc h.c _ (mx (((i + 1) * P : Nat) : Int) e') _ (ckSum W' P i) x hs0 (by unfold mx; split <;> split <;> omega) (ckSum_bd W' P i h.t'.hW h.t'.hx).1 (ck_less h.w P i) hx
  have := (endT_some _ _ _ _ _ (sums_small h.t'.hC.1 h.t'.hC.2 h.t'.hc) (sums_up h.t'.hc) hs0 (ckSum_bd W' P i h.t'.hW h.t'.hx).1 h1).1
  exact ⟨x', h1, h2, by omega⟩

theorem Better.pgo_ex (h : Better W W' C C' P lat lat' app) : ∀ m i e e' A B D E A' B' D' E', 0 ≤ e' → e' ≤ e → pgo W C P lat app m i e A B D E ≠ none → pgo W' C' P lat' app m i e' A' B' D' E' ≠ none := by
  intro m
  induction m with
  | zero => intro i e e' A B D E A' B' D' E' _ _ _; simp [pgo]
  | succ m ih =>
    intro i e e' A B D E A' B' D' E' h0 hle hne
    simp only [pgo] at hne ⊢
    split at hne
    · exact absurd rfl hne
    · rename_i x hx
      obtain ⟨x', e1, e2, e3⟩ := h.end_ i e e' x h0 hle hx
      rw [e1]
      exact ih (i + 1) x x' _ _ _ _ _ _ _ _ e3 e2 hne

theorem Better.ends (h : Better W W' C C' P lat lat' app) {n : Nat} {A B D E A' B' D' E' : List Int} (hS : PSpec W C P lat app n A B D E) (hS' : PSpec W' C' P lat' app n A' B' D' E') : ∀ j : Nat, j < n → rd D' (j : Int) ≤ rd D (j : Int) ∧ 0 ≤ rd D' (j : Int) := by
  intro j
  induction j with
  | zero =>
    intro hj
    obtain ⟨x', e1, e2, e3⟩ := h.end_ 0 (prevD D 0) (prevD D' 0) _ (Int.le_refl _) (Int.le_refl _) (hS.rD 0 hj)
    rw [hS'.rD 0 hj] at e1
    obtain rfl := Option.some.inj e1
    exact ⟨e2, e3⟩
  | succ j ih =>
    intro hj
    obtain ⟨i1, i2⟩ := ih (by omega)
    have e : ∀ D : List Int, prevD D (j + 1) = rd D (j : Int) := fun D => by unfold prevD; rw [if_neg (by omega), show j + 1 - 1 = j from by omega]
    obtain ⟨x', e1, e2, e3⟩ := h.end_ (j + 1) (prevD D (j + 1)) (prevD D' (j + 1)) _ (by rw [e]; exact i2) (by rw [e, e]; exact i1) (hS.rD (j + 1) hj)
    rw [hS'.rD (j + 1) hj] at e1
    obtain rfl := Option.some.inj e1
    exact ⟨e2, e3⟩

/-- Less to do: no greater bound. -/
theorem Better.bound (h : Better W W' C C' P lat lat' app) {n : Nat} {A B D E A' B' D' E' : List Int} (hS : PSpec W C P lat app n A B D E) (hS' : PSpec W' C' P lat' app n A' B' D' E') : bndN P E' E'.length ≤ bndN P E E.length := by
  have lE := hS.lE
  have lE' := hS'.lE
  have hl := h.l
  rcases bndN_at P E' E'.length with e0 | ⟨i, h1, h2, h3⟩
  · have := bndN_pos P E E.length; omega
  · have h4 := h.ends hS hS' i (by omega)
    have h5 := hS.rE i (by omega)
    have h6 := hS'.rE i (by omega)
    have h7 := bndN_le P E E.length i (by omega)
    omega
end

theorem tmod4 (x : Int) (h0 : 0 ≤ x) (h1 : x ≤ 255) : 0 ≤ Int.tmod (wrap64 x) 4 ∧ Int.tmod (wrap64 x) 4 ≤ 3 := by
  rw [w64 x (by omega) (by omega), Int.tmod_eq_emod_of_nonneg h0]
  omega

section
variable {W C : List Int} {p lat app : Int} {M F : List Int} {less : Int}

theorem imp_tail (h : SmOk W C p lat app) (hless : 0 ≤ less ∧ less ≤ 255) (W' C' : List Int) (lW : W'.length = W.length) (hW' : ∀ k : Nat, k < W.length → 0 ≤ rd W' (k : Int) ∧ rd W' (k : Int) ≤ rd W (k : Int)) (lC : C'.length = C.length) (hC' : ∀ k : Nat, k < C.length → rd C (k : Int) ≤ rd C' (k : Int) ∧ rd C' (k : Int) ≤ 4000)
    (K : Nat) (hK : 30000 ≤ K) (x68 : List Int) :
    standbylaw56_PlannerImproves.l1 K x68 (x68.length : Int) (x68.length : Int) W C p lat app M F less W' C' p lat app = some true := by
  obtain ⟨hT, hp1⟩ := h.tr
  have hp := h.hp
  have hl := hT.hl
  have hl2 := h.hl
  have ht := tmod4 less hless.1 hless.2
  obtain ⟨K, rfl⟩ : ∃ K', K = K' + 1 := ⟨K - 1, by omega⟩
  simp only [standbylaw56_PlannerImproves.l1]
  rw [if_neg (by omega), w64 (lat - Int.tmod (wrap64 less) 4) (by omega) (by omega), planPlan_f W C p lat app K (by omega), Option.bind_some, planPlan_f _ _ _ _ _ K (by omega), Option.bind_some]
  have hlat : 0 ≤ mx 0 (lat - Int.tmod (wrap64 less) 4) ∧ mx 0 (lat - Int.tmod (wrap64 less) 4) ≤ lat := by unfold mx; split <;> omega
  obtain ⟨lat', hlat'⟩ : ∃ l, mx 0 (lat - Int.tmod (wrap64 less) 4) = l := ⟨_, rfl⟩
  rw [hlat'] at hlat ⊢
  have hw' : ∀ x ∈ W', 0 ≤ x ∧ x ≤ 4096 := by
    intro x hx
    obtain ⟨i, hi, rfl⟩ := mem_rd hx
    have h1 := hW' i (by omega)
    have h2 := h.hw _ (rd_mem W (i : Int) (by omega) (by omega))
    omega
  have hc' : ∀ x ∈ C', 0 ≤ x ∧ x ≤ 4096 := by
    intro x hx
    obtain ⟨i, hi, rfl⟩ := mem_rd hx
    have h1 := hC' i (by omega)
    have h2 := h.hcc _ (rd_mem C (i : Int) (by omega) (by omega))
    omega
  have hW := hT.hW
  have hC := hT.hC
  have hck := chk_mk (W := W') (C := C') (p := p) (lat := lat') (app := app) (by omega) hw' (by omega) hc' (by omega) (by omega) hT.ha
  have hB : Better W W' C C' p.toNat lat lat' app := ⟨hT, (chk_zero hck).1, lW, lC, fun k => by
    by_cases hk : k < W.length
    · exact (hW' k hk).2
    · simp [rd, List.getD_eq_getElem?_getD, List.getElem?_eq_none (show W.length ≤ k by omega), List.getElem?_eq_none (show W'.length ≤ k by omega)], fun k hk => (hC' k hk).1, hlat.2⟩
  rcases planV_cases W C p lat app with ⟨h1, _⟩ | ⟨_, hz, e⟩ | ⟨_, A, B, D, E, e, hS⟩
  · exact absurd h.hc h1
  · rw [e]; rfl
  · rw [e]
    have hne : pgo W C p.toNat lat app (ckN W.length p.toNat) 0 0 [] [] [] [] ≠ none := by
      intro hn
      unfold planV at e
      rw [if_pos h.hc, hn] at e
      simp [outP] at e
    have hne' := hB.pgo_ex _ 0 0 0 [] [] [] [] [] [] [] [] (Int.le_refl _) (Int.le_refl _) hne
    rcases planV_cases W' C' p lat' app with ⟨h1, _⟩ | ⟨_, hz, e'⟩ | ⟨_, A', B', D', E', e', hS'⟩
    · exact absurd hck h1
    · exfalso
      unfold planV at e'
      rw [if_pos hck, lW] at e'
      cases hp' : pgo W' C' p.toNat lat' app (ckN W.length p.toNat) 0 0 [] [] [] [] with
      | none => exact hne' hp'
      | some v => obtain ⟨a, b, c, d⟩ := v; rw [hp'] at e'; simp [outP] at e'
    · rw [lW] at hS'
      have hb := hB.bound hS hS'
      rw [e']
      simp only
      rw [if_pos trivial, if_pos trivial, if_pos hb]
      rfl

theorem imp_l1 (h : SmOk W C p lat app) (hless : 0 ≤ less ∧ less ≤ 255) (W' : List Int) (lW : W'.length = W.length) (hW' : ∀ k : Nat, k < W.length → 0 ≤ rd W' (k : Int) ∧ rd W' (k : Int) ≤ rd W (k : Int)) (X : List Int) (hX : X.length ≤ 60) (hx : ∀ x ∈ X, 0 ≤ x ∧ x ≤ 255) :
    ∀ (m i K : Nat) (C' : List Int), i + m = X.length → C'.length = C.length → (∀ k : Nat, k < C.length → rd C (k : Int) ≤ rd C' (k : Int) ∧ rd C' (k : Int) ≤ 20 + (if k < i then 3 else 0)) → 40000 + m ≤ K →
    standbylaw56_PlannerImproves.l1 K X (X.length : Int) (i : Int) W C p lat app M F less W' C' p lat app = some true := by
  have hT := h.tr.1
  intro m
  induction m with
  | zero =>
    intro i K C' hi lC hC' hK
    rw [show i = X.length from by omega]
    exact imp_tail h hless W' C' lW hW' lC (fun k hk => ⟨(hC' k hk).1, by have := (hC' k hk).2; split at this <;> omega⟩) K (by omega) X
  | succ m ih =>
    intro i K C' hi lC hC' hK
    obtain ⟨K, rfl⟩ : ∃ K', K = K' + 1 := ⟨K - 1, by omega⟩
    simp only [standbylaw56_PlannerImproves.l1]
    have hr := hx _ (rd_mem X (i : Int) (by omega) (by omega))
    have ht := tmod4 _ hr.1 hr.2
    have hCl := h.hC
    rw [if_pos (by omega), if_pos (by omega), if_pos (by omega), w64 ((i : Int) + 1) (by omega) (by omega), show (i : Int) + 1 = ((i + 1 : Nat) : Int) from by omega, Int.toNat_natCast]
    by_cases hc : (i : Int) < (C'.length : Int)
    · have hb := hC' i (by omega)
      rw [if_neg (show ¬ i < i by omega)] at hb
      have hb2 := h.hcc _ (rd_mem C (i : Int) (by omega) (by omega))
      rw [if_pos hc, w64 (rd C' (i : Int) + Int.tmod (wrap64 (rd X (i : Int))) 4) (by omega) (by omega)]
      refine ih (i + 1) K _ (by omega) (by rw [List.length_set]; exact lC) (fun k hk => ?_) (by omega)
      rw [rd_set2 C' i _ (by omega)]
      have h1 := hC' k hk
      by_cases hki : k = i
      · subst hki
        rw [if_pos rfl, if_pos (by omega)]
        omega
      · rw [if_neg hki]
        refine ⟨h1.1, ?_⟩
        have h2 := h1.2
        split at h2
        · rw [if_pos (by omega)]; omega
        · rw [if_neg (by omega)]; omega
    · rw [if_neg hc]
      refine ih (i + 1) K C' (by omega) lC (fun k hk => ?_) (by omega)
      have h1 := hC' k hk
      refine ⟨h1.1, ?_⟩
      have h2 := h1.2
      split at h2
      · rw [if_pos (by omega)]; omega
      · split <;> omega

theorem imp_l0 (h : SmOk W C p lat app) (hless : 0 ≤ less ∧ less ≤ 255) (hM : M.length ≤ 60) (hm : ∀ x ∈ M, 0 ≤ x ∧ x ≤ 255) (hF : F.length ≤ 60) (hf : ∀ x ∈ F, 0 ≤ x ∧ x ≤ 255) :
    ∀ (m i K : Nat) (W' : List Int), i + m = F.length → W'.length = W.length → (∀ k : Nat, k < W.length → 0 ≤ rd W' (k : Int) ∧ rd W' (k : Int) ≤ rd W (k : Int)) → 50000 + m ≤ K →
    standbylaw56_PlannerImproves.l0 K F (F.length : Int) (i : Int) W C p lat app M F less W' C p lat app = some true := by
  intro m
  induction m with
  | zero =>
    intro i K W' hi lW hW' hK
    obtain ⟨K, rfl⟩ : ∃ K', K = K' + 1 := ⟨K - 1, by omega⟩
    simp only [standbylaw56_PlannerImproves.l0]
    rw [if_neg (by omega)]
    exact imp_l1 h hless W' lW hW' M hM hm M.length 0 K C (by omega) rfl (fun k hk => ⟨Int.le_refl _, by have := h.hcc _ (rd_mem C (k : Int) (by omega) (by omega)); rw [if_neg (by omega)]; omega⟩) (by omega)
  | succ m ih =>
    intro i K W' hi lW hW' hK
    obtain ⟨K, rfl⟩ : ∃ K', K = K' + 1 := ⟨K - 1, by omega⟩
    simp only [standbylaw56_PlannerImproves.l0]
    have hr := hf _ (rd_mem F (i : Int) (by omega) (by omega))
    have ht := tmod4 _ hr.1 hr.2
    have hWl := h.hW
    rw [if_pos (by omega), if_pos (by omega), if_pos (by omega), w64 ((i : Int) + 1) (by omega) (by omega), show (i : Int) + 1 = ((i + 1 : Nat) : Int) from by omega, Int.toNat_natCast]
    by_cases hc : (i : Int) < (W'.length : Int)
    · have hb := hW' i (by omega)
      have hb2 := h.hw _ (rd_mem W (i : Int) (by omega) (by omega))
      rw [if_pos hc, w64 (rd W' (i : Int) - Int.tmod (wrap64 (rd F (i : Int))) 4) (by omega) (by omega)]
      refine ih (i + 1) K _ (by omega) (by rw [List.length_set]; exact lW) (fun k hk => ?_) (by omega)
      rw [rd_set2 W' i _ (by omega)]
      by_cases hki : k = i
      · subst hki
        rw [if_pos rfl]
        unfold mx; split <;> omega
      · rw [if_neg hki]; exact hW' k hk
    · rw [if_neg hc]
      exact ih (i + 1) K W' (by omega) lW hW' (by omega)
end

theorem Clone_f (l : List Int) (h : l.length ≤ 4096) : slices_Clone_int_int.f l = some l := by
  unfold slices_Clone_int_int.f
  simp only [Option.bind_some, List.length_nil, List.nil_append]
  rw [if_pos (by omega)]

theorem PlannerImproves_true (W C : List Int) (p lat app : Int) (M F : List Int) (less : Int) (hm : ∀ x ∈ M, 0 ≤ x ∧ x ≤ 255) (hf : ∀ x ∈ F, 0 ≤ x ∧ x ≤ 255) (hless : 0 ≤ less ∧ less ≤ 255) : ∃ k, standbylaw56_PlannerImproves.f k W C p lat app M F less = some true := by
  refine ⟨20000000, ?_⟩
  unfold standbylaw56_PlannerImproves.f
  obtain ⟨b, hb, hsm⟩ := small_f W C p lat app 20000000 (by omega)
  obtain ⟨K, hK⟩ : ∃ K, K + 1 = 20000000 := ⟨19999999, rfl⟩
  have jt : standbylaw56_PlannerImproves.j0 20000000 true W C p lat app M F less = some true := by
    rw [← hK]
    simp only [standbylaw56_PlannerImproves.j0]
    rw [if_pos trivial]
    rfl
  rw [hb, Option.bind_some]
  cases b with
  | false => rw [if_neg (by simp)]; exact jt
  | true =>
    have h := hsm rfl
    rw [if_pos rfl]
    by_cases h1 : (M.length : Int) > 60
    · rw [if_pos h1]; exact jt
    · rw [if_neg h1]
      by_cases h2 : (F.length : Int) > 60
      · rw [decide_eq_true h2]; exact jt
      · rw [decide_eq_false h2, ← hK]
        have hW := h.hW
        have hC := h.hC
        simp only [standbylaw56_PlannerImproves.j0]
        rw [if_neg (by simp), Clone_f W (by omega), Option.bind_some, Clone_f C (by omega), Option.bind_some]
        exact imp_l0 h hless (by omega) hm (by omega) hf F.length 0 K W (by omega) rfl (fun k hk => ⟨(h.hw _ (rd_mem W (k : Int) (by omega) (by omega))).1, Int.le_refl _⟩) (by omega)
end Go.Proofs.Ytcflacjidabppaa.Pr

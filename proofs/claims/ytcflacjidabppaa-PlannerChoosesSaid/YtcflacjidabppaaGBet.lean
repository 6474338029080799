/- Less to do: no greater bound. -/
import Derived.Test.YtcflacjidabppaaGSmallV
namespace Go.Proofs.Ytcflacjidabppaa.Pr
open Go.RowKit Go.Proofs.YtcflacjidabppaaW.PrintWords Go.Proofs.YtcflacjidabppaaW.PrintLast Go.Proofs.YtcflacjidabppaaW.PrintMore
set_option linter.unusedVariables false
set_option linter.unusedSimpArgs false
theorem mem_rd {l : List Int} {x : Int} (h : x ∈ l) : ∃ i : Nat, i < l.length ∧ x = rd l (i : Int) := by
  obtain ⟨i, hi, e⟩ := List.getElem_of_mem h
  exact ⟨i, hi, by simp [rd, List.getD_eq_getElem?_getD, List.getElem?_eq_getElem hi, e]⟩
theorem rd_set2 (l : List Int) (i : Nat) (v : Int) (hi : i < l.length) (k : Nat) : rd (l.set i v) (k : Int) = if k = i then v else rd l (k : Int) := by
  simp only [rd, Int.toNat_natCast, List.getD_eq_getElem?_getD]
  by_cases h : k = i
  · subst h; simp [hi]
  · rw [if_neg h, List.getElem?_set_ne (fun e => h e.symm)]
theorem chk_mk {W C : List Int} {p lat app : Int} (hW : W.length ≤ 4096) (hw : ∀ x ∈ W, 0 ≤ x ∧ x ≤ 4096) (hC : 1 ≤ C.length ∧ C.length ≤ 4096) (hc : ∀ x ∈ C, 0 ≤ x ∧ x ≤ 4096) (hp : 1 ≤ p ∧ p ≤ 4096) (hl : 0 ≤ lat ∧ lat ≤ 1073741824) (ha : 0 ≤ app ∧ app ≤ 1073741824) : chkV W C p lat app = 0 := by
  unfold chkV
  rw [if_pos ⟨hW, hC.1, hC.2⟩, if_pos]
  refine ⟨?_, ?_, ?_⟩
  · unfold okL; rw [List.all_eq_true]; intro x hx; have := hw x hx; simp; omega
  · unfold okL; rw [List.all_eq_true]; intro x hx; have := hc x hx; simp; omega
  · unfold okP; simp; omega

/-- More carried in each tick: more carried in each stretch. -/
theorem bef_more {C C' : List Int} (hl : C'.length = C.length) (h1 : 1 ≤ C.length) (h : ∀ k : Nat, k < C.length → rd C (k : Int) ≤ rd C' (k : Int)) (a : Int) (ha : 0 ≤ a) : ∀ m : Nat,
    bef (sumsOf C) (rd C ((C.length : Int) - 1)) (a + m) - bef (sumsOf C) (rd C ((C.length : Int) - 1)) a ≤ bef (sumsOf C') (rd C' ((C'.length : Int) - 1)) (a + m) - bef (sumsOf C') (rd C' ((C'.length : Int) - 1)) a := by
  intro m
  induction m with
  | zero => simp
  | succ m ih =>
    have e1 := cap_bef C h1 (a + m) (by omega)
    have e2 := cap_bef C' (by omega) (a + m) (by omega)
    have e3 : capV C (a + m) ≤ capV C' (a + m) := by
      unfold capV
      rw [hl]
      obtain ⟨q, hq⟩ : ∃ q : Nat, mn (a + m) ((C.length : Int) - 1) = (q : Int) := ⟨(mn (a + m) ((C.length : Int) - 1)).toNat, by unfold mn; split <;> omega⟩
      have hq2 : q < C.length := by unfold mn at hq; split at hq <;> omega
      rw [hq]
      exact h q hq2
    rw [show a + ((m + 1 : Nat) : Int) = a + m + 1 from by omega]
    omega

theorem endT_le {C C' : List Int} (hl : C'.length = C.length) (h1 : 1 ≤ C.length ∧ C.length ≤ 4096) (hc : ∀ x ∈ C, 0 ≤ x ∧ x ≤ 4096) (hc' : ∀ x ∈ C', 0 ≤ x ∧ x ≤ 4096) (h : ∀ k : Nat, k < C.length → rd C (k : Int) ≤ rd C' (k : Int)) (s s' z z' x : Int) (hs0 : 0 ≤ s') (hs : s' ≤ s) (hz0 : 0 ≤ z') (hz : z' ≤ z)
    (he : endT (sumsOf C) (rd C ((C.length : Int) - 1)) s z = some x) : ∃ x', endT (sumsOf C') (rd C' ((C'.length : Int) - 1)) s' z' = some x' ∧ x' ≤ x := by
  have sS := sums_small h1.1 h1.2 hc
  have sU := sums_up hc
  have sS' := sums_small (C := C') (by omega) (by omega) hc'
  have sU' := sums_up hc'
  have hE := endT_some _ _ _ _ _ sS sU (by omega) (by omega) he
  have key : bef (sumsOf C') (rd C' ((C'.length : Int) - 1)) s' + z' ≤ bef (sumsOf C') (rd C' ((C'.length : Int) - 1)) x := by
    have h2 := hE.1
    have h3 := bef_more hl h1.1 h s (by omega) (x - s).toNat
    have h4 := bef_mono (sumsOf C') (rd C' ((C'.length : Int) - 1)) sS' sU' s' s hs0 hs
    have h5 := hE.2.1
    rw [show s + ((x - s).toNat : Int) = x from by omega] at h3
    omega
  cases he' : endT (sumsOf C') (rd C' ((C'.length : Int) - 1)) s' z' with
  | none =>
    have := (endT_none _ _ _ _ sS' sU' hs0 hz0 he').2 x (by have := hE.1; omega)
    omega
  | some x' =>
    refine ⟨x', rfl, ?_⟩
    have hE' := endT_some _ _ _ _ _ sS' sU' hs0 hz0 he'
    rcases Int.lt_or_le x x' with h2 | h2
    · have := hE'.2.2 x (by have := hE.1; omega) h2
      omega
    · exact h2

theorem pre_step (W : List Int) (i : Nat) : pre W (i + 1) = pre W i + rd W (i : Int) := by
  by_cases h : i < W.length
  · exact pre_rd W i h
  · rw [pre_end W (i + 1) (by omega), pre_end W i (by omega)]
    simp [rd, List.getD_eq_getElem?_getD, List.getElem?_eq_none (show W.length ≤ i by omega)]
theorem pre_less {W W' : List Int} (h : ∀ k : Nat, rd W' (k : Int) ≤ rd W (k : Int)) (a : Nat) : ∀ m : Nat, pre W' (a + m) - pre W' a ≤ pre W (a + m) - pre W a := by
  intro m
  induction m with
  | zero => simp
  | succ m ih =>
    have e1 := pre_step W (a + m)
    have e2 := pre_step W' (a + m)
    have e3 := h (a + m)
    rw [show a + (m + 1) = a + m + 1 from by omega]
    omega
theorem ck_less {W W' : List Int} (h : ∀ k : Nat, rd W' (k : Int) ≤ rd W (k : Int)) (P k : Nat) : ckSum W' P k ≤ ckSum W P k := by
  have e : (k + 1) * P = k * P + P := Nat.succ_mul k P
  rw [pre_ck, pre_ck, e]
  exact pre_less h (k * P) P

section
variable {W W' C C' : List Int} {P : Nat} {lat lat' app : Int}
/-- A trace with less to do. -/
structure Better (W W' C C' : List Int) (P : Nat) (lat lat' app : Int) : Prop where
  t : TrOk W C P lat app
  t' : TrOk W' C' P lat' app
  lW : W'.length = W.length
  lC : C'.length = C.length
  w : ∀ k : Nat, rd W' (k : Int) ≤ rd W (k : Int)
  c : ∀ k : Nat, k < C.length → rd C (k : Int) ≤ rd C' (k : Int)
  l : lat' ≤ lat

theorem Better.end_ (h : Better W W' C C' P lat lat' app) (i : Nat) (e e' x : Int) (h0 : 0 ≤ e') (hle : e' ≤ e) (hx : endT (sumsOf C) (rd C ((C.length : Int) - 1)) (mx (((i + 1) * P : Nat) : Int) e) (ckSum W P i) = some x) :
    ∃ x', endT (sumsOf C') (rd C' ((C'.length : Int) - 1)) (mx (((i + 1) * P : Nat) : Int) e') (ckSum W' P i) = some x' ∧ x' ≤ x ∧ 0 ≤ x' := by
  have hs0 : 0 ≤ mx (((i + 1) * P : Nat) : Int) e' := by unfold mx; split <;> omega
  obtain ⟨x', h1, h2⟩ := endT_le h.lC h.t.hC h.t.hc h.t'.hc h.c _ (mx (((i + 1) * P : Nat) : Int) e') _ (ckSum W' P i) x hs0 (by unfold mx; split <;> split <;> omega) (ckSum_bd W' P i h.t'.hW h.t'.hx).1 (ck_less h.w P i) hx
  have := (endT_some _ _ _ _ _ (sums_small h.t'.hC.1 h.t'.hC.2 h.t'.hc) (sums_up h.t'.hc) hs0 (ckSum_bd W' P i h.t'.hW h.t'.hx).1 h1).1
  exact ⟨x', h1, h2, by omega⟩

theorem Better.pgo_ex (h : Better W W' C C' P lat lat' app) : ∀ m i e e' A B D E A' B' D' E', 0 ≤ e' → e' ≤ e → pgo W C P lat app m i e A B D E ≠ none → pgo W' C' P lat' app m i e' A' B' D' E' ≠ none := by
  intro m
  induction m with
  | zero => intro i e e' A B D E A' B' D' E' _ _ _; simp [pgo]
  | succ m ih =>
    intro i e e' A B D E A' B' D' E' h0 hle hne
    simp only [pgo] at hne ⊢
    split at hne
    · exact absurd rfl hne
    · rename_i x hx
      obtain ⟨x', e1, e2, e3⟩ := h.end_ i e e' x h0 hle hx
      rw [e1]
      exact ih (i + 1) x x' _ _ _ _ _ _ _ _ e3 e2 hne

theorem Better.ends (h : Better W W' C C' P lat lat' app) {n : Nat} {A B D E A' B' D' E' : List Int} (hS : PSpec W C P lat app n A B D E) (hS' : PSpec W' C' P lat' app n A' B' D' E') : ∀ j : Nat, j < n → rd D' (j : Int) ≤ rd D (j : Int) ∧ 0 ≤ rd D' (j : Int) := by
  intro j
  induction j with
  | zero =>
    intro hj
    obtain ⟨x', e1, e2, e3⟩ := h.end_ 0 (prevD D 0) (prevD D' 0) _ (Int.le_refl _) (Int.le_refl _) (hS.rD 0 hj)
    rw [hS'.rD 0 hj] at e1
    obtain rfl := Option.some.inj e1
    exact ⟨e2, e3⟩
  | succ j ih =>
    intro hj
    obtain ⟨i1, i2⟩ := ih (by omega)
    have e : ∀ D : List Int, prevD D (j + 1) = rd D (j : Int) := fun D => by unfold prevD; rw [if_neg (by omega), show j + 1 - 1 = j from by omega]
    obtain ⟨x', e1, e2, e3⟩ := h.end_ (j + 1) (prevD D (j + 1)) (prevD D' (j + 1)) _ (by rw [e]; exact i2) (by rw [e, e]; exact i1) (hS.rD (j + 1) hj)
    rw [hS'.rD (j + 1) hj] at e1
    obtain rfl := Option.some.inj e1
    exact ⟨e2, e3⟩

/-- Less to do: no greater bound. -/
theorem Better.bound (h : Better W W' C C' P lat lat' app) {n : Nat} {A B D E A' B' D' E' : List Int} (hS : PSpec W C P lat app n A B D E) (hS' : PSpec W' C' P lat' app n A' B' D' E') : bndN P E' E'.length ≤ bndN P E E.length := by
  have lE := hS.lE
  have lE' := hS'.lE
  have hl := h.l
  rcases bndN_at P E' E'.length with e0 | ⟨i, h1, h2, h3⟩
  · have := bndN_pos P E E.length; omega
  · have h4 := h.ends hS hS' i (by omega)
    have h5 := hS.rE i (by omega)
    have h6 := hS'.rE i (by omega)
    have h7 := bndN_le P E E.length i (by omega)
    omega
end
end Go.Proofs.Ytcflacjidabppaa.Pr

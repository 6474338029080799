/- CurvePoints: what the crossing means, and curves behind their last value. -/
import Derived.Test.YtanlonngekgibaaGConvV
import Derived.Test.YtanlonngekgibaaGComV
import Derived.Test.YtanlonngekgibaaGWinV
namespace Go.Proofs.Ytanlonngekgibaa.Pr
open Go.RowKit Go.Proofs.YtanlonngekgibaaW.PrintWords Go.Proofs.YtanlonngekgibaaW.PrintLast Go.Proofs.YtanlonngekgibaaW.PrintMore
set_option linter.unusedVariables false
set_option linter.unusedSimpArgs false
theorem ceil_le (x y : Int) (h0 : 0 ≤ x) (h1 : 1 ≤ y) : x ≤ (x + y - 1).tdiv y * y := by
  rw [Int.tdiv_eq_ediv_of_nonneg (by omega)]
  have e := Int.emod_add_mul_ediv (x + y - 1) y
  have b := Int.emod_lt_of_pos (x + y - 1) (show 0 < y by omega)
  rw [Int.mul_comm] at e
  omega
theorem behind (a b c d r x : Int) (hbd : d ≤ b) (hr : c - a ≤ r * (b - d)) (hx : r ≤ x) : c + x * d ≤ a + x * b := by
  have h := Int.mul_le_mul_of_nonneg_right hx (show 0 ≤ b - d by omega)
  rw [Int.mul_sub x b d] at h
  omega
theorem cross_line (a b c d r : Int) (ha : 0 ≤ a ∧ a ≤ 1152921504606846976) (hc : 0 ≤ c ∧ c ≤ 1152921504606846976) (hb : TimeOk b) (hd : TimeOk d) (h : curve_crossing.f a b c d = some r) (x : Int) (hx : r ≤ x) :
    mn (a + x * b) (c + x * d) = mn (a + r * b) (c + r * d) + (x - r) * mn b d := by
  unfold TimeOk at hb hd
  unfold curve_crossing.f at h
  have lo : ∀ p q y : Int, p ≤ q → mn p q = p := by intro p q _ h; unfold mn; split <;> omega
  have hi : ∀ p q : Int, q ≤ p → mn p q = q := by intro p q h; unfold mn; split <;> omega
  have up : ∀ x y : Int, 0 ≤ x → x ≤ 1152921504606846976 → 1 ≤ y → y ≤ 1073741824 → wrap64 (Int.tdiv (wrap64 (wrap64 (wrap64 x + wrap64 y) - 1)) (wrap64 y)) = (x + y - 1).tdiv y := by
    intro x y h0 h1 h2 h3
    rw [w64 x (by omega) (by omega), w64 y (by omega) (by omega), w64 (x + y) (by omega) (by omega), w64 (x + y - 1) (by omega) (by omega)]
    have q0 : 0 ≤ (x + y - 1).tdiv y := Int.tdiv_nonneg (by omega) (by omega)
    have q1 : (x + y - 1).tdiv y ≤ x + y - 1 := by
      rw [Int.tdiv_eq_ediv_of_nonneg (by omega)]
      exact Int.ediv_le_self _ (by omega)
    exact w64 _ (by omega) (by omega)
  by_cases h1 : b = d
  · subst h1
    rw [hi b b (Int.le_refl _), Int.sub_mul]
    unfold mn
    split <;> split <;> omega
  rw [if_neg h1] at h
  by_cases h2 : b > d
  · rw [if_pos h2] at h
    have key : c - a ≤ r * (b - d) := by
      by_cases h3 : c ≤ a
      · rw [if_pos h3] at h
        obtain rfl := Option.some.inj h
        omega
      · rw [if_neg h3, if_neg (by rw [w64 _ (by omega) (by omega)]; omega), up _ _ (by omega) (by omega) (by omega) (by omega)] at h
        obtain rfl := Option.some.inj h
        exact ceil_le (c - a) (b - d) (by omega) (by omega)
    rw [hi _ _ (behind a b c d r x (by omega) key hx), hi _ _ (behind a b c d r r (by omega) key (Int.le_refl _)), hi b d (by omega), Int.sub_mul]
    omega
  · rw [if_neg h2] at h
    have key : a - c ≤ r * (d - b) := by
      by_cases h3 : a ≤ c
      · rw [if_pos h3] at h
        obtain rfl := Option.some.inj h
        omega
      · rw [if_neg h3, if_neg (by rw [w64 _ (by omega) (by omega)]; omega), up _ _ (by omega) (by omega) (by omega) (by omega)] at h
        obtain rfl := Option.some.inj h
        exact ceil_le (a - c) (d - b) (by omega) (by omega)
    rw [lo _ _ 0 (behind c d a b r x (by omega) key hx), lo _ _ 0 (behind c d a b r r (by omega) key (Int.le_refl _)), lo b d 0 (by omega), Int.sub_mul]
    omega
theorem cv_line (l : List Int) (s x : Int) (h : (l.length : Int) - 1 ≤ x) : cv l s x = rd l ((l.length : Int) - 1) + (x - ((l.length : Int) - 1)) * s := by
  unfold cv
  by_cases hlt : x < (l.length : Int)
  · rw [if_pos hlt, show x = (l.length : Int) - 1 from by omega, show (l.length : Int) - 1 - ((l.length : Int) - 1) = 0 from by omega]; omega
  · rw [if_neg hlt, show x - (l.length : Int) + 1 = x - ((l.length : Int) - 1) from by omega]
theorem cv_next (l : List Int) (s x y : Int) (h : (l.length : Int) - 1 ≤ x) (hxy : x ≤ y) : cv l s y = cv l s x + (y - x) * s := by
  rw [cv_line l s x h, cv_line l s y (by omega), show y - ((l.length : Int) - 1) = (x - ((l.length : Int) - 1)) + (y - x) from by omega, Int.add_mul]
  omega
theorem cv_up {l : List Int} {s : Int} (hl : CurOk l s) (x : Int) (h0 : 0 ≤ x) : cv l s x ≤ cv l s (x + 1) := by
  have hs := hl.s; have h1 := hl.h1
  unfold TimeOk at hs
  by_cases h : (l.length : Int) - 1 ≤ x
  · rw [cv_next l s x (x + 1) h (by omega), show x + 1 - x = 1 from by omega]; omega
  · have := hl.up x.toNat (by omega)
    rw [show (x.toNat : Int) = x from by omega] at this
    unfold cv
    rw [if_pos (by omega), if_pos (by omega)]; exact this
/-- A curve of the first values of a function that goes on as a line. -/
theorem cv_vals (f : Int → Int) (N : Nat) (σ B : Int) (hN : 1 ≤ N) (hf : ∀ x : Int, (N : Int) - 1 ≤ x → x ≤ B → f x = f ((N : Int) - 1) + (x - ((N : Int) - 1)) * σ) (x : Int) (h0 : 0 ≤ x) (hB : x ≤ B) : cv (vals f N) σ x = f x := by
  by_cases h : (N : Int) - 1 ≤ x
  · rw [cv_line _ _ _ (by rw [vals_len]; exact h), vals_len, show (N : Int) - 1 = ((N - 1 : Nat) : Int) from by omega, vals_rd f N (N - 1) (by omega), hf x h hB, show (N : Int) - 1 = ((N - 1 : Nat) : Int) from by omega]
  · unfold cv
    have hx : ((x.toNat : Nat) : Int) = x := by omega
    rw [vals_len, if_pos (by omega)]
    have := vals_rd f N x.toNat (by omega)
    rw [hx] at this
    exact this
theorem fin_ok (f : Int → Int) (N : Nat) (σ : Int) (hN : 1 ≤ N) (h : (finV (vals f N) σ).2.2 = 0) (hf0 : ∀ x : Int, 0 ≤ x → x ≤ 5000 → 0 ≤ f x) (hfu : ∀ x : Int, 0 ≤ x → x ≤ 5000 → f x ≤ f (x + 1)) (hσ : 0 ≤ σ) : finV (vals f N) σ = (vals f N, σ, 0) ∧ CurOk (vals f N) σ := by
  unfold finV at h ⊢
  rw [vals_len] at h ⊢
  by_cases h1 : 4096 < N
  · rw [if_pos h1] at h; simp at h
  rw [if_neg h1] at h ⊢
  by_cases h2 : ∃ x ∈ vals f N, 1073741824 < x
  · rw [if_pos h2] at h; simp at h
  rw [if_neg h2] at h ⊢
  by_cases h3 : 1073741824 < σ
  · rw [if_pos h3] at h; simp at h
  rw [if_neg h3]
  refine ⟨rfl, by rw [vals_len]; omega, by rw [vals_len]; omega, ?_, ⟨hσ, by omega⟩, ?_⟩
  · intro x hx
    have hle : x ≤ 1073741824 := by
      by_cases hg : 1073741824 < x
      · exact absurd ⟨x, hx, hg⟩ h2
      · omega
    obtain ⟨i, _, rfl⟩ := List.mem_map.1 hx
    exact ⟨hf0 _ (by omega) (by have := List.mem_range.1 ‹_›; omega), hle⟩
  · intro i hi
    rw [vals_len] at hi
    rw [vals_rd f N i (by omega), show (i : Int) + 1 = ((i + 1 : Nat) : Int) from by omega, vals_rd f N (i + 1) (by omega)]
    have := hfu (i : Int) (by omega) (by omega)
    rw [show (i : Int) + 1 = ((i + 1 : Nat) : Int) from by omega] at this
    exact this
theorem mn_le_l (a b : Int) : mn a b ≤ a := by unfold mn; split <;> omega
theorem mn_le_r (a b : Int) : mn a b ≤ b := by unfold mn; split <;> omega
theorem mn_or (a b : Int) : mn a b = a ∨ mn a b = b := by unfold mn; split <;> simp
theorem mn_comm (a b : Int) : mn a b = mn b a := by unfold mn; split <;> split <;> omega
/-- The least of the sums of divisions up to the j-th. -/
structure Least (f g : Int → Int) (x : Int) (j : Nat) (v : Int) : Prop where
  le : ∀ i : Nat, i ≤ j → v ≤ f (i : Int) + g (x - (i : Int))
  eq : ∃ i : Nat, i ≤ j ∧ v = f (i : Int) + g (x - (i : Int))
theorem Least.uniq {f g : Int → Int} {x : Int} {j : Nat} {v w : Int} (h : Least f g x j v) (h2 : Least f g x j w) : v = w := by
  obtain ⟨i, hi, ei⟩ := h.eq
  obtain ⟨k, hk, ek⟩ := h2.eq
  have := h.le k hk
  have := h2.le i hi
  omega
theorem lst_least (n : Nat) (rest : Int) (f g : Int → Int) (hr : rest ≤ 1000000) (hf : ∀ x, 0 ≤ x → x ≤ rest → 0 ≤ f x ∧ f x ≤ 1152921505680588800) (hg : ∀ x, 0 ≤ x → x ≤ rest → 0 ≤ g x ∧ g x ≤ 1152921505680588800) : ∀ j : Nat, (j : Int) ≤ rest → Least f g rest j (lst n rest f g j) := by
  intro j
  induction j with
  | zero =>
    intro h
    have h1 := hf 0 (by omega) (by omega)
    have h2 := hg rest (by omega) (by omega)
    have e : lst n rest f g 0 = f 0 + g rest := by show wrap64 (f 0 + g rest) = _; exact w64 _ (by omega) (by omega)
    have e0 : rest - ((0 : Nat) : Int) = rest := by omega
    rw [e]
    refine ⟨fun i hi => ?_, 0, Nat.le_refl _, ?_⟩
    · obtain rfl : i = 0 := by omega
      rw [e0]; exact Int.le_refl _
    · rw [e0]; rfl
  | succ j ih =>
    intro h
    have hh := ih (by omega)
    have h1 := hf ((j : Int) + 1) (by omega) (by omega)
    have h2 := hg (rest - ((j : Int) + 1)) (by omega) (by omega)
    have ec : ((j + 1 : Nat) : Int) = (j : Int) + 1 := by omega
    rw [lst_succ, w64 (f ((j : Int) + 1) + g (rest - ((j : Int) + 1))) (by omega) (by omega)]
    refine ⟨fun i hi => ?_, ?_⟩
    · by_cases e : i = j + 1
      · subst e; rw [ec]; exact mn_le_r _ _
      · exact Int.le_trans (mn_le_l _ _) (hh.le i (by omega))
    · rcases mn_or (lst n rest f g j) (f ((j : Int) + 1) + g (rest - ((j : Int) + 1))) with e | e
      · obtain ⟨i, hi, ei⟩ := hh.eq
        exact ⟨i, by omega, by rw [e, ei]⟩
      · exact ⟨j + 1, Nat.le_refl _, by rw [e, ec]⟩
theorem Least.turn {f g : Int → Int} {x : Nat} {v : Int} (h : Least f g (x : Int) x v) : Least g f (x : Int) x v := by
  refine ⟨fun i hi => ?_, ?_⟩
  · have := h.le (x - i) (by omega)
    rw [show (x : Int) - ((x - i : Nat) : Int) = (i : Int) from by omega, show ((x - i : Nat) : Int) = (x : Int) - (i : Int) from by omega] at this
    omega
  · obtain ⟨i, hi, e⟩ := h.eq
    refine ⟨x - i, by omega, ?_⟩
    rw [show (x : Int) - ((x - i : Nat) : Int) = (i : Int) from by omega, show ((x - i : Nat) : Int) = (x : Int) - (i : Int) from by omega]
    omega
section
variable {l : List Int} {s : Int} {m : List Int} {t : Int} (hl : CurOk l s) (hm : CurOk m t)
include hl hm
theorem cvl_least (x : Nat) (hx : x ≤ 20000) : Least (cv l s) (cv m t) (x : Int) x (cvl l s m t (x : Int)) := by
  have h := lst_least ((x : Int).toNat + 1) (x : Int) (cv l s) (cv m t) (by omega) (fun y h0 h1 => by have := cv_bd hl y h0 (by omega); omega) (fun y h0 h1 => by have := cv_bd hm y h0 (by omega); omega) x (by omega)
  exact h
theorem cvlP_least : Least (cv l s) (cv m t) ((l.length + m.length - 2 : Nat) : Int) (l.length - 1) (cvlP l s m t) := by
  have g1 := hl.h1; have g2 := hl.h2; have g3 := hm.h1; have g4 := hm.h2
  exact lst_least _ _ (cv l s) (cv m t) (by omega) (fun y h0 h1 => by have := cv_bd hl y h0 (by omega); omega) (fun y h0 h1 => by have := cv_bd hm y h0 (by omega); omega) (l.length - 1) (by omega)
theorem cvl_comm (x : Nat) (hx : x ≤ 20000) : cvl l s m t (x : Int) = cvl m t l s (x : Int) :=
  (cvl_least hl hm x hx).uniq (cvl_least hm hl x hx).turn
/-- From the last division on, the convolution is the lesser of two lines. -/
theorem cvl_two (x : Nat) (hx : x ≤ 20000) (hla : l.length + m.length - 2 ≤ x) : cvl l s m t (x : Int) = mn (cvlP l s m t + ((x : Int) - ((l.length + m.length - 2 : Nat) : Int)) * t) (cvlP m t l s + ((x : Int) - ((l.length + m.length - 2 : Nat) : Int)) * s) := by
  have g1 := hl.h1; have g2 := hl.h2; have g3 := hm.h1; have g4 := hm.h2
  have hL := cvl_least hl hm x hx
  have hP := cvlP_least hl hm
  have hQ := cvlP_least hm hl
  rw [show m.length + l.length - 2 = l.length + m.length - 2 from by omega] at hQ
  obtain ⟨la, ela⟩ : ∃ la : Nat, la = l.length + m.length - 2 := ⟨_, rfl⟩
  rw [← ela] at hP hQ ⊢
  have gl : ∀ i : Nat, i ≤ l.length - 1 → cv m t ((x : Int) - (i : Int)) = cv m t ((la : Int) - (i : Int)) + ((x : Int) - (la : Int)) * t := fun i hi => by
    rw [cv_next m t ((la : Int) - (i : Int)) ((x : Int) - (i : Int)) (by omega) (by omega), show (x : Int) - (i : Int) - ((la : Int) - (i : Int)) = (x : Int) - (la : Int) from by omega]
  have gm : ∀ i : Nat, i ≤ m.length - 1 → cv l s ((x : Int) - (i : Int)) = cv l s ((la : Int) - (i : Int)) + ((x : Int) - (la : Int)) * s := fun i hi => by
    rw [cv_next l s ((la : Int) - (i : Int)) ((x : Int) - (i : Int)) (by omega) (by omega), show (x : Int) - (i : Int) - ((la : Int) - (i : Int)) = (x : Int) - (la : Int) from by omega]
  have lP : cvl l s m t (x : Int) ≤ cvlP l s m t + ((x : Int) - (la : Int)) * t := by
    obtain ⟨i, hi, e⟩ := hP.eq
    have := hL.le i (by omega)
    rw [gl i hi] at this; omega
  have lQ : cvl l s m t (x : Int) ≤ cvlP m t l s + ((x : Int) - (la : Int)) * s := by
    obtain ⟨i, hi, e⟩ := hQ.eq
    have := hL.turn.le i (by omega)
    rw [gm i hi] at this; omega
  have fP : ∀ i : Nat, i ≤ l.length - 1 → cvlP l s m t + ((x : Int) - (la : Int)) * t ≤ cv l s (i : Int) + cv m t ((x : Int) - (i : Int)) := fun i hi => by
    have := hP.le i hi
    rw [gl i hi]; omega
  have fQ : ∀ i : Nat, i ≤ m.length - 1 → cvlP m t l s + ((x : Int) - (la : Int)) * s ≤ cv m t (i : Int) + cv l s ((x : Int) - (i : Int)) := fun i hi => by
    have := hQ.le i hi
    rw [gm i hi]; omega
  have low : mn (cvlP l s m t + ((x : Int) - (la : Int)) * t) (cvlP m t l s + ((x : Int) - (la : Int)) * s) ≤ cvl l s m t (x : Int) := by
    obtain ⟨i, hi, e⟩ := hL.eq
    rw [e]
    by_cases h1 : i ≤ l.length - 1
    · exact Int.le_trans (mn_le_l _ _) (fP i h1)
    by_cases h2 : x - i ≤ m.length - 1
    · have := fQ (x - i) h2
      rw [show (x : Int) - ((x - i : Nat) : Int) = (i : Int) from by omega, show ((x - i : Nat) : Int) = (x : Int) - (i : Int) from by omega] at this
      exact Int.le_trans (mn_le_r _ _) (by omega)
    by_cases hst : s ≤ t
    · -- the division moves up to the second curve's last value
      have a1 := cv_next l s (i : Int) ((x : Int) - ((m.length - 1 : Nat) : Int)) (by omega) (by omega)
      have a2 := cv_next m t ((m.length - 1 : Nat) : Int) ((x : Int) - (i : Int)) (by omega) (by omega)
      have hq := fQ (m.length - 1) (Nat.le_refl _)
      obtain ⟨δ, hδ⟩ : ∃ δ : Int, δ = (x : Int) - ((m.length - 1 : Nat) : Int) - (i : Int) := ⟨_, rfl⟩
      rw [← hδ] at a1
      rw [show (x : Int) - (i : Int) - ((m.length - 1 : Nat) : Int) = δ from by omega] at a2
      have := Int.mul_le_mul_of_nonneg_left hst (show 0 ≤ δ by omega)
      exact Int.le_trans (mn_le_r _ _) (by omega)
    · have a1 := cv_next l s ((l.length - 1 : Nat) : Int) (i : Int) (by omega) (by omega)
      have a2 := cv_next m t ((x : Int) - (i : Int)) ((x : Int) - ((l.length - 1 : Nat) : Int)) (by omega) (by omega)
      have hq := fP (l.length - 1) (Nat.le_refl _)
      obtain ⟨δ, hδ⟩ : ∃ δ : Int, δ = (i : Int) - ((l.length - 1 : Nat) : Int) := ⟨_, rfl⟩
      rw [← hδ] at a1
      rw [show (x : Int) - ((l.length - 1 : Nat) : Int) - ((x : Int) - (i : Int)) = δ from by omega] at a2
      have := Int.mul_le_mul_of_nonneg_left (show t ≤ s by omega) (show 0 ≤ δ by omega)
      exact Int.le_trans (mn_le_l _ _) (by omega)
  rcases mn_or (cvlP l s m t + ((x : Int) - (la : Int)) * t) (cvlP m t l s + ((x : Int) - (la : Int)) * s) with e | e <;> rw [e] at low ⊢ <;> omega
theorem cvl_line (c : Int) (hc : curve_crossing.f (cvlP l s m t) t (cvlP m t l s) s = some c) (c0 : 0 ≤ c) (c1 : c ≤ 5000) (x : Nat) (hx : x ≤ 20000) (h : ((l.length + m.length - 2 : Nat) : Int) + c ≤ (x : Int)) :
    cvl l s m t (x : Int) = cvl l s m t (((l.length + m.length - 2 : Nat) : Int) + c) + ((x : Int) - (((l.length + m.length - 2 : Nat) : Int) + c)) * mn s t := by
  have g2 := hl.h2; have g4 := hm.h2
  have b1 := cvlP_bd hl hm
  have b2 := cvlP_bd hm hl
  have e1 := cvl_two hl hm x hx (by omega)
  have e2 := cvl_two hl hm ((l.length + m.length - 2) + c.toNat) (by omega) (by omega)
  rw [show (((l.length + m.length - 2) + c.toNat : Nat) : Int) = ((l.length + m.length - 2 : Nat) : Int) + c from by omega, show ((l.length + m.length - 2 : Nat) : Int) + c - ((l.length + m.length - 2 : Nat) : Int) = c from by omega] at e2
  rw [e1, e2, cross_line (cvlP l s m t) t (cvlP m t l s) s c (by omega) (by omega) hm.s hl.s hc _ (by omega), mn_comm t s, show (x : Int) - ((l.length + m.length - 2 : Nat) : Int) - c = (x : Int) - (((l.length + m.length - 2 : Nat) : Int) + c) from by omega]
end
/-- Where a result is a curve, it is correct and has these values. -/
def Good (r : List Int × Int × Int) (f : Int → Int) : Prop := r.2.2 = 0 → CurOk r.1 r.2.1 ∧ ∀ n : Nat, n ≤ 255 → cv r.1 r.2.1 (n : Int) = f (n : Int)
theorem good_fin (f : Int → Int) (N : Nat) (σ : Int) (hN : 1 ≤ N) (hf0 : ∀ x : Int, 0 ≤ x → x ≤ 5000 → 0 ≤ f x) (hfu : ∀ x : Int, 0 ≤ x → x ≤ 5000 → f x ≤ f (x + 1)) (hσ : 0 ≤ σ) (hf : ∀ x : Int, (N : Int) - 1 ≤ x → x ≤ 300 → f x = f ((N : Int) - 1) + (x - ((N : Int) - 1)) * σ) : Good (finV (vals f N) σ) f := by
  intro h
  obtain ⟨e, hc⟩ := fin_ok f N σ hN h hf0 hfu hσ
  rw [e]
  exact ⟨hc, fun n hn => cv_vals f N σ 300 hN hf (n : Int) (by omega) (by omega)⟩
theorem crossing_comm (a b c d : Int) : curve_crossing.f a b c d = curve_crossing.f c d a b := by
  unfold curve_crossing.f
  by_cases h1 : b = d
  · rw [if_pos h1, if_pos (c := d = b) h1.symm]
  rw [if_neg h1, if_neg (c := d = b) (fun e : d = b => h1 e.symm)]
  by_cases h2 : b > d
  · rw [if_pos h2, if_neg (c := d > b) (by omega)]
  · rw [if_neg h2, if_pos (c := d > b) (by omega)]
section
variable {l : List Int} {s : Int} {m : List Int} {t : Int} (hl : CurOk l s) (hm : CurOk m t)
include hl hm
theorem min_mono (x : Int) (h0 : 0 ≤ x) : minV l s m t x ≤ minV l s m t (x + 1) := by
  have a := cv_up hl x h0
  have b := cv_up hm x h0
  unfold minV mn
  split <;> split <;> omega
theorem mn0 : 0 ≤ mn s t := by
  have a := hl.s; have b := hm.s
  unfold TimeOk at a b
  unfold mn; split <;> omega
theorem min_val (k : Nat) (hk : 20000 ≤ k) : ∃ r, curve_Min.f k l s m t = some r ∧ Good r (fun x => mn (cv l s x) (cv m t x)) := by
  have g1 := hl.h1; have g2 := hl.h2; have g3 := hm.h1; have g4 := hm.h2
  have b1 := cv_bd hl (((max l.length m.length : Nat) : Int) - 1) (by omega) (by omega)
  have b2 := cv_bd hm (((max l.length m.length : Nat) : Int) - 1) (by omega) (by omega)
  have b3 := b1.2.2 (by omega)
  have b4 := b2.2.2 (by omega)
  obtain ⟨c, hc, c0, c1⟩ := crossing_f (cv l s (((max l.length m.length : Nat) : Int) - 1)) s (cv m t (((max l.length m.length : Nat) : Int) - 1)) t (by omega) (by omega) hl.s hm.s
  refine ⟨minR l s m t c, ?_, ?_⟩
  · unfold curve_Min.f
    rw [check_f l s k (by omega), check_f m t k (by omega), ok_chk hl, ok_chk hm, Option.bind_some, if_pos rfl, Option.bind_some, if_pos rfl]
    rw [mxl, w64 (((max l.length m.length : Nat) : Int) - 1) (by omega) (by omega), at_f hl _ (by omega) (by omega), at_f hm _ (by omega) (by omega), Option.bind_some, Option.bind_some, hc, Option.bind_some, w64 (((max l.length m.length : Nat) : Int) + c) (by omega) (by omega)]
    unfold minR
    by_cases hN : ((max l.length m.length : Nat) : Int) + c > 4096
    · rw [if_pos hN]; unfold curve_made.f; rw [if_pos hN]
    · rw [if_neg hN]
      obtain ⟨N, hN2⟩ : ∃ N : Nat, (N : Int) = ((max l.length m.length : Nat) : Int) + c := ⟨(((max l.length m.length : Nat) : Int) + c).toNat, by omega⟩
      rw [← hN2, Int.toNat_natCast]
      exact made_f _ (minV l s m t) N (mn s t) (by omega) (fun i hi => minF_f hl hm i (by omega)) k (by omega)
  · unfold minR
    by_cases hN : ((max l.length m.length : Nat) : Int) + c > 4096
    · rw [if_pos hN]; intro h; simp at h
    · rw [if_neg hN]
      obtain ⟨N, hN2⟩ : ∃ N : Nat, (N : Int) = ((max l.length m.length : Nat) : Int) + c := ⟨(((max l.length m.length : Nat) : Int) + c).toNat, by omega⟩
      rw [← hN2, Int.toNat_natCast]
      refine good_fin (minV l s m t) N (mn s t) (by omega) (fun x h0 h1 => ?_) (fun x h0 _ => min_mono hl hm x h0) (mn0 hl hm) (fun x hx hx2 => ?_)
      · have p := cv_bd hl x h0 (by omega); have q := cv_bd hm x h0 (by omega)
        unfold minV mn; split <;> omega
      · have key : ∀ y : Int, (N : Int) - 1 ≤ y → minV l s m t y = mn (cv l s (((max l.length m.length : Nat) : Int) - 1) + (y - (((max l.length m.length : Nat) : Int) - 1)) * s) (cv m t (((max l.length m.length : Nat) : Int) - 1) + (y - (((max l.length m.length : Nat) : Int) - 1)) * t) := fun y hy => by
          unfold minV
          rw [cv_next l s (((max l.length m.length : Nat) : Int) - 1) y (by omega) (by omega), cv_next m t (((max l.length m.length : Nat) : Int) - 1) y (by omega) (by omega)]
        rw [key x hx, key ((N : Int) - 1) (Int.le_refl _), show (N : Int) - 1 - (((max l.length m.length : Nat) : Int) - 1) = c from by omega, cross_line _ s _ t c (by omega) (by omega) hl.s hm.s hc _ (by omega), show x - (((max l.length m.length : Nat) : Int) - 1) - c = x - ((N : Int) - 1) from by omega]
theorem add_val (k : Nat) (hk : 20000 ≤ k) : ∃ r, curve_Add.f k l s m t = some r ∧ Good r (fun x => cv l s x + cv m t x) := by
  have g1 := hl.h1; have g2 := hl.h2; have g3 := hm.h1; have g4 := hm.h2
  have hs := hl.s; have ht := hm.s
  unfold TimeOk at hs ht
  have eW : vals (addV l s m t) (max l.length m.length) = vals (fun x => cv l s x + cv m t x) (max l.length m.length) := by
    unfold vals
    refine List.map_congr_left fun i hi => ?_
    have := List.mem_range.1 hi
    have p := cv_bd hl (i : Int) (by omega) (by omega); have q := cv_bd hm (i : Int) (by omega) (by omega)
    exact w64 _ (by omega) (by omega)
  refine ⟨finV (vals (fun x => cv l s x + cv m t x) (max l.length m.length)) (s + t), ?_, ?_⟩
  · unfold curve_Add.f
    rw [check_f l s k (by omega), check_f m t k (by omega), ok_chk hl, ok_chk hm, Option.bind_some, if_pos rfl, Option.bind_some, if_pos rfl]
    rw [mxl, made_f _ (addV l s m t) (max l.length m.length) (wrap64 (s + t)) (by omega) (fun i hi => addF_f hl hm i (by omega)) k (by omega), eW, w64 (s + t) (by omega) (by omega)]
  · refine good_fin (fun x => cv l s x + cv m t x) (max l.length m.length) (s + t) (by omega) (fun x h0 h1 => ?_) (fun x h0 _ => ?_) (by omega) (fun x hx hx2 => ?_)
    · have p := cv_bd hl x h0 (by omega); have q := cv_bd hm x h0 (by omega)
      show 0 ≤ cv l s x + cv m t x; omega
    · have p := cv_up hl x h0; have q := cv_up hm x h0
      show cv l s x + cv m t x ≤ cv l s (x + 1) + cv m t (x + 1); omega
    · show cv l s x + cv m t x = _
      rw [cv_next l s (((max l.length m.length : Nat) : Int) - 1) x (by omega) hx, cv_next m t (((max l.length m.length : Nat) : Int) - 1) x (by omega) hx, Int.mul_add]
      omega
theorem conv_f (k : Nat) (hk : 20000 ≤ k) (c : Int) (hc : curve_crossing.f (cvlP l s m t) t (cvlP m t l s) s = some c) (c0 : 0 ≤ c) (c1 : c ≤ 1152921506000000000) : curve_Convolve.f k l s m t = some (cvlR l s m t c) := by
  unfold curve_Convolve.f
  rw [check_f l s k (by omega), check_f m t k (by omega), ok_chk hl, ok_chk hm, Option.bind_some, if_pos rfl, Option.bind_some, if_pos rfl]
  exact convG_f hl hm k (by omega) c hc c0 c1
theorem cvlR_comm (c : Int) : cvlR l s m t c = cvlR m t l s c := by
  have g2 := hl.h2; have g4 := hm.h2
  unfold cvlR
  rw [show m.length + l.length - 2 = l.length + m.length - 2 from by omega, mn_comm t s]
  by_cases hN : ((l.length + m.length - 2 : Nat) : Int) + 1 + c > 4096
  · rw [if_pos hN, if_pos hN]
  · rw [if_neg hN, if_neg hN]
    congr 1
    unfold vals
    refine List.map_congr_left fun i hi => ?_
    have := List.mem_range.1 hi
    exact cvl_comm hl hm i (by omega)
theorem conv_val (k : Nat) (hk : 20000 ≤ k) : ∃ r, r.1.length ≤ 4096 ∧ curve_Convolve.f k l s m t = some r ∧ curve_Convolve.f k m t l s = some r ∧ Good r (cvl l s m t) := by
  have g1 := hl.h1; have g2 := hl.h2; have g3 := hm.h1; have g4 := hm.h2
  obtain ⟨c, hc, c0, c1⟩ := conv_cross hl hm
  refine ⟨cvlR l s m t c, ?_, conv_f hl hm k hk c hc c0 c1, ?_, ?_⟩
  · unfold cvlR
    split
    · simp
    · exact finV_len _ _
  · rw [cvlR_comm hl hm c]
    exact conv_f hm hl k hk c (by rw [crossing_comm]; exact hc) c0 c1
  · unfold cvlR
    by_cases hN : ((l.length + m.length - 2 : Nat) : Int) + 1 + c > 4096
    · rw [if_pos hN]; intro h; simp at h
    · rw [if_neg hN]
      obtain ⟨N, hN2⟩ : ∃ N : Nat, (N : Int) = ((l.length + m.length - 2 : Nat) : Int) + 1 + c := ⟨(((l.length + m.length - 2 : Nat) : Int) + 1 + c).toNat, by omega⟩
      rw [← hN2, Int.toNat_natCast]
      refine good_fin (cvl l s m t) N (mn s t) (by omega) (fun x h0 h1 => ?_) (fun x h0 h1 => ?_) (mn0 hl hm) (fun x hx hx2 => ?_)
      · obtain ⟨y, rfl⟩ : ∃ y : Nat, x = (y : Int) := ⟨x.toNat, by omega⟩
        obtain ⟨i, hi, e⟩ := (cvl_least hl hm y (by omega)).eq
        have p := cv_bd hl (i : Int) (by omega) (by omega); have q := cv_bd hm ((y : Int) - (i : Int)) (by omega) (by omega)
        omega
      · obtain ⟨y, rfl⟩ : ∃ y : Nat, x = (y : Int) := ⟨x.toNat, by omega⟩
        have hA := cvl_least hl hm y (by omega)
        have hB := cvl_least hl hm (y + 1) (by omega)
        rw [show (y : Int) + 1 = ((y + 1 : Nat) : Int) from by omega]
        obtain ⟨i, hi, e⟩ := hB.eq
        by_cases hiy : i ≤ y
        · have p := hA.le i hiy
          have q := cv_up hm ((y : Int) - (i : Int)) (by omega)
          rw [show (y : Int) - (i : Int) + 1 = ((y + 1 : Nat) : Int) - (i : Int) from by omega] at q
          omega
        · obtain rfl : i = y + 1 := by omega
          have p := hA.le y (Nat.le_refl _)
          have q := cv_up hl (y : Int) (by omega)
          rw [show (y : Int) + 1 = ((y + 1 : Nat) : Int) from by omega] at q
          rw [show (y : Int) - (y : Int) = ((y + 1 : Nat) : Int) - ((y + 1 : Nat) : Int) from by omega] at p
          omega
      · obtain ⟨y, rfl⟩ : ∃ y : Nat, x = (y : Int) := ⟨x.toNat, by omega⟩
        have h := cvl_line hl hm c hc c0 (by omega) y (by omega) (by omega)
        rw [show ((l.length + m.length - 2 : Nat) : Int) + c = (N : Int) - 1 from by omega] at h
        exact h
end
end Go.Proofs.Ytanlonngekgibaa.Pr

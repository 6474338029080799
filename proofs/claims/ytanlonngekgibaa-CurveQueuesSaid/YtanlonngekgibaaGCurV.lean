/- What curve.made, curve.least and the reference's finish answer. -/
import Derived.Test.YtanlonngekgibaaGCurK
import Derived.Test.YtanlonngekgibaaF49
import Derived.Test.YtanlonngekgibaaF48
import Derived.Test.YtanlonngekgibaaF54
namespace Go.Proofs.Ytanlonngekgibaa.Pr
open Go.RowKit Go.Proofs.YtanlonngekgibaaW.PrintWords Go.Proofs.YtanlonngekgibaaW.PrintLast Go.Proofs.YtanlonngekgibaaW.PrintMore
set_option linter.unusedVariables false
set_option linter.unusedSimpArgs false
/-- The first n values of a function. -/
def vals (f : Int → Int) (n : Nat) : List Int := (List.range n).map fun (i : Nat) => f (i : Int)
theorem vals_succ (f : Int → Int) (n : Nat) : vals f (n + 1) = vals f n ++ [f (n : Int)] := by simp [vals, List.range_succ]
theorem vals_len (f : Int → Int) (n : Nat) : (vals f n).length = n := by simp [vals]
theorem vals_zero (f : Int → Int) : vals f 0 = [] := rfl
theorem vals_mem (f : Int → Int) (n i : Nat) (h : i < n) : f (i : Int) ∈ vals f n := List.mem_map.2 ⟨i, List.mem_range.2 h, rfl⟩
theorem vals_all (f : Int → Int) (n : Nat) (P : Int → Prop) (h : ∀ i : Nat, i < n → P (f (i : Int))) : ∀ x ∈ vals f n, P x := by
  intro x hx
  obtain ⟨i, hi, rfl⟩ := List.mem_map.1 hx
  exact h i (List.mem_range.1 hi)
theorem vals_rd (f : Int → Int) (n i : Nat) (h : i < n) : rd (vals f n) (i : Int) = f (i : Int) := by
  simp [rd, vals, List.getD_eq_getElem?_getD, List.getElem?_map, List.getElem?_range h]
/-- A curve with these values, or the number of the error. -/
def finV (l : List Int) (s : Int) : List Int × Int × Int := if 4096 < l.length then ([], 0, 5) else if ∃ x ∈ l, 1073741824 < x then ([], 0, 2) else if 1073741824 < s then ([], 0, 2) else (l, s, 0)
theorem finV_len (l : List Int) (s : Int) : (finV l s).1.length ≤ 4096 := by
  unfold finV
  split
  · simp
  · split
    · simp
    · split
      · simp
      · show l.length ≤ 4096; omega
theorem fin_l0 (l : List Int) (s : Int) (hl : l.length ≤ 4096) : ∀ m i k : Nat, i + m = l.length → m + 1 ≤ k → (∀ x ∈ l.take i, x ≤ 1073741824) → standbyref55_finish.l0 k l s (i : Int) = some (finV l s) := by
  intro m
  induction m with
  | zero =>
    intro i k hi hk h
    obtain ⟨k, rfl⟩ : ∃ k', k = k' + 1 := ⟨k - 1, by omega⟩
    rw [List.take_of_length_le (by omega)] at h
    simp only [standbyref55_finish.l0]
    unfold finV
    rw [if_neg (by omega), if_neg (c := 4096 < l.length) (by omega), if_neg (c := ∃ x ∈ l, 1073741824 < x) (fun ⟨x, hx, h2⟩ => by have := h x hx; omega)]
    by_cases h3 : 1073741824 < s
    · rw [if_pos h3, if_pos h3]
    · rw [if_neg h3, if_neg h3]
  | succ m ih =>
    intro i k hi hk h
    obtain ⟨k, rfl⟩ : ∃ k', k = k' + 1 := ⟨k - 1, by omega⟩
    have e3 : wrap64 ((i : Int) + 1) = ((i + 1 : Nat) : Int) := by rw [w64 _ (by omega) (by omega)]; omega
    simp only [standbyref55_finish.l0, e3]
    rw [if_pos (by omega), if_pos (by omega)]
    by_cases h4 : rd l (i : Int) > 1073741824
    · rw [if_pos h4]
      unfold finV
      rw [if_neg (by omega), if_pos ⟨_, rd_mem l (i : Int) (by omega) (by omega), h4⟩]
    · rw [if_neg h4]
      refine ih (i + 1) k (by omega) (by omega) (fun x hx => ?_)
      rw [take_rd l i (by omega), List.mem_append, List.mem_singleton] at hx
      rcases hx with hx | hx
      · exact h x hx
      · rw [hx]; omega
theorem finish_f (l : List Int) (s : Int) (k : Nat) (hk : 4100 ≤ k) : standbyref55_finish.f k l s = some (finV l s) := by
  unfold standbyref55_finish.f
  by_cases h : (l.length : Int) > 4096
  · rw [if_pos h]; unfold finV; rw [if_pos (by omega)]
  · rw [if_neg h]
    exact fin_l0 l s (by omega) l.length 0 k (by omega) (by omega) (by simp)
theorem made_l0 (F : Int → Option Int) (f : Int → Int) (s : Int) (n : Nat) (hn : n ≤ 4096) (hF : ∀ i : Nat, i < n → F (i : Int) = some (f (i : Int))) : ∀ m i k : Nat, i + m = n → m + 1 ≤ k → (∀ x ∈ vals f i, x ≤ 1073741824) → curve_made.l0 F k s (n : Int) (i : Int) (vals f i) s = some (finV (vals f n) s) := by
  intro m
  induction m with
  | zero =>
    intro i k hi hk h
    obtain ⟨k, rfl⟩ : ∃ k', k = k' + 1 := ⟨k - 1, by omega⟩
    obtain rfl : i = n := by omega
    simp only [curve_made.l0]
    unfold finV
    rw [if_neg (by omega), if_neg (c := 4096 < (vals f i).length) (by rw [vals_len]; omega), if_neg (c := ∃ x ∈ vals f i, 1073741824 < x) (fun ⟨x, hx, h2⟩ => by have := h x hx; omega)]
    by_cases h3 : 1073741824 < s
    · rw [if_pos h3, if_pos h3]
    · rw [if_neg h3, if_neg h3]
  | succ m ih =>
    intro i k hi hk h
    obtain ⟨k, rfl⟩ : ∃ k', k = k' + 1 := ⟨k - 1, by omega⟩
    have e3 : wrap64 ((i : Int) + 1) = ((i + 1 : Nat) : Int) := by rw [w64 _ (by omega) (by omega)]; omega
    simp only [curve_made.l0, e3]
    rw [if_pos (by omega), hF i (by omega), Option.bind_some]
    by_cases h4 : f (i : Int) > 1073741824
    · rw [if_pos h4]
      unfold finV
      rw [if_neg (by rw [vals_len]; omega), if_pos ⟨_, vals_mem f n i (by omega), h4⟩]
    · rw [if_neg h4, if_pos (by rw [vals_len]; omega), ← vals_succ]
      refine ih (i + 1) k (by omega) (by omega) (fun x hx => ?_)
      rw [vals_succ, List.mem_append, List.mem_singleton] at hx
      rcases hx with hx | hx
      · exact h x hx
      · rw [hx]; omega
theorem made_f (F : Int → Option Int) (f : Int → Int) (n : Nat) (s : Int) (hn : n ≤ 4096) (hF : ∀ i : Nat, i < n → F (i : Int) = some (f (i : Int))) (k : Nat) (hk : 4100 ≤ k) : curve_made.f k (n : Int) s F = some (finV (vals f n) s) := by
  unfold curve_made.f
  rw [if_neg (by omega)]
  exact made_l0 F f s n hn hF n 0 k (by omega) (by omega) (by simp [vals])
/-- The least sum. -/
def lst (n : Nat) (rest : Int) (f g : Int → Int) (j : Nat) : Int := (List.range j).foldl (fun b (i : Nat) => mn b (wrap64 (f ((i : Int) + 1) + g (rest - ((i : Int) + 1))))) (wrap64 (f 0 + g rest))
theorem lst_succ (n : Nat) (rest : Int) (f g : Int → Int) (j : Nat) : lst n rest f g (j + 1) = mn (lst n rest f g j) (wrap64 (f ((j : Int) + 1) + g (rest - ((j : Int) + 1)))) := by
  simp [lst, List.range_succ, List.foldl_append]
theorem lst_bd (n : Nat) (rest : Int) (f g : Int → Int) (B : Int) (hB : B ≤ 1000000000000000) (hf : ∀ x, 0 ≤ x → x ≤ (n : Int) → 0 ≤ f x ∧ f x ≤ B) (hg : ∀ x, 0 ≤ x → x ≤ rest → 0 ≤ g x ∧ g x ≤ B) : ∀ j : Nat, j ≤ n → (j : Int) ≤ rest → 0 ≤ lst n rest f g j ∧ lst n rest f g j ≤ 2 * B := by
  intro j
  induction j with
  | zero =>
    intro hj hr
    have h1 := hf 0 (by omega) (by omega)
    have h2 := hg rest (by omega) (by omega)
    show 0 ≤ wrap64 (f 0 + g rest) ∧ wrap64 (f 0 + g rest) ≤ 2 * B
    rw [w64 _ (by omega) (by omega)]; omega
  | succ j ih =>
    intro hj hr
    have h0 := ih (by omega) (by omega)
    have h1 := hf ((j : Int) + 1) (by omega) (by omega)
    have h2 := hg (rest - ((j : Int) + 1)) (by omega) (by omega)
    rw [lst_succ, w64 _ (by omega) (by omega)]
    unfold mn
    split <;> omega
theorem least_l0 (F G : Int → Option Int) (f g : Int → Int) (n : Nat) (rest : Int) (hn : n ≤ 20000) (hr : (n : Int) - 1 ≤ rest ∧ rest ≤ 20000) (hF : ∀ x : Int, 0 ≤ x → x < (n : Int) → F x = some (f x)) (hG : ∀ x : Int, 0 ≤ x → x ≤ rest → G x = some (g x)) :
    ∀ m j k : Nat, j + 1 + m = n → m + 1 ≤ k → curve_least.l0 F G k (n : Int) rest (lst n rest f g j) ((j + 1 : Nat) : Int) = some (lst n rest f g (n - 1)) := by
  intro m
  induction m with
  | zero =>
    intro j k hj hk
    obtain ⟨k, rfl⟩ : ∃ k', k = k' + 1 := ⟨k - 1, by omega⟩
    simp only [curve_least.l0]
    rw [if_neg (by omega), show n - 1 = j from by omega]
  | succ m ih =>
    intro j k hj hk
    obtain ⟨k, rfl⟩ : ∃ k', k = k' + 1 := ⟨k - 1, by omega⟩
    have e3 : wrap64 (((j + 1 : Nat) : Int) + 1) = ((j + 1 + 1 : Nat) : Int) := by rw [w64 _ (by omega) (by omega)]; omega
    have e4 : wrap64 (rest - ((j + 1 : Nat) : Int)) = rest - ((j : Int) + 1) := by rw [w64 _ (by omega) (by omega)]; omega
    have e5 : ((j + 1 : Nat) : Int) = (j : Int) + 1 := by omega
    simp only [curve_least.l0, e3, e4]
    rw [if_pos (by omega), hF _ (by omega) (by omega), hG _ (by omega) (by omega), Option.bind_some, Option.bind_some, e5, ← lst_succ]
    exact ih (j + 1) k (by omega) (by omega)
theorem least_f (F G : Int → Option Int) (f g : Int → Int) (n : Nat) (rest : Int) (h1 : 1 ≤ n) (hn : n ≤ 20000) (hr : (n : Int) - 1 ≤ rest ∧ rest ≤ 20000) (hF : ∀ x : Int, 0 ≤ x → x < (n : Int) → F x = some (f x)) (hG : ∀ x : Int, 0 ≤ x → x ≤ rest → G x = some (g x)) (k : Nat) (hk : n + 1 ≤ k) :
    curve_least.f k (n : Int) rest F G = some (lst n rest f g (n - 1)) := by
  unfold curve_least.f
  rw [hF 0 (by omega) (by omega), hG rest (by omega) (by omega), Option.bind_some, Option.bind_some]
  exact least_l0 F G f g n rest hn hr hF hG (n - 1) 0 k (by omega) (by omega)
end Go.Proofs.Ytanlonngekgibaa.Pr

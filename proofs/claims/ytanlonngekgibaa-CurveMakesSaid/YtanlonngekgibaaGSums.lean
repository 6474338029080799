/- Sums of lists and what curve.windows computes: plain Lean. -/
import Derived.Test.YtanlonngekgibaaGUp
namespace Go.Proofs.Ytanlonngekgibaa.Pr
open Go.RowKit Go.Proofs.YtanlonngekgibaaW.PrintWords Go.Proofs.YtanlonngekgibaaW.PrintLast Go.Proofs.YtanlonngekgibaaW.PrintMore
set_option linter.unusedVariables false
/-- The sums of the first elements. -/
def sumsOf (l : List Int) : List Int := (List.range (l.length + 1)).map fun i => (l.take i).sum
theorem sumsOf_len (l : List Int) : (sumsOf l).length = l.length + 1 := by simp [sumsOf]
theorem sumsOf_rd (l : List Int) (i : Nat) (h : i ≤ l.length) : rd (sumsOf l) (i : Int) = (l.take i).sum := by
  simp only [rd, sumsOf, Int.toNat_natCast, List.getD_eq_getElem?_getD, List.getElem?_map, List.getElem?_range (show i < l.length + 1 by omega), Option.map_some, Option.getD_some]
theorem sumsOf_snoc (l : List Int) (x : Int) : sumsOf (l ++ [x]) = sumsOf l ++ [l.sum + x] := by
  unfold sumsOf
  rw [List.length_append, List.length_singleton, List.range_succ, List.map_append]
  congr 1
  · refine List.map_congr_left fun i hi => ?_
    have : i ≤ l.length := by have := List.mem_range.1 hi; omega
    rw [List.take_append_of_le_length this]
  · simp [List.take_of_length_le]

theorem take_rd (l : List Int) (i : Nat) (h : i < l.length) : l.take (i + 1) = l.take i ++ [rd l (i : Int)] := by
  rw [List.take_succ_eq_append_getElem h]
  simp [rd, List.getD_eq_getElem?_getD, List.getElem?_eq_getElem h]
theorem rd_mem (l : List Int) (i : Int) (h0 : 0 ≤ i) (h1 : i < l.length) : rd l i ∈ l := by
  have hn : i.toNat < l.length := by omega
  have e : rd l i = l[i.toNat] := by simp [rd, List.getD_eq_getElem?_getD, List.getElem?_eq_getElem hn]
  rw [e]; exact List.getElem_mem hn
/-- The numbers of the times. -/
@[reducible] def TimeOk (x : Int) : Prop := 0 ≤ x ∧ x ≤ 1073741824
theorem sumT (l : List Int) (h : ∀ x ∈ l, TimeOk x) : 0 ≤ l.sum ∧ l.sum ≤ 1073741824 * (l.length : Int) := by
  induction l with
  | nil => simp
  | cons a r ih =>
    have h1 := h a (List.mem_cons_self ..)
    have h2 := ih (fun x hx => h x (List.mem_cons_of_mem _ hx))
    rw [List.sum_cons, List.length_cons]
    unfold TimeOk at h1
    omega
/-- The best one of the windows of k ticks that begin before tick j + 1, and the one of the start. -/
def bestTo (bet : Int → Int → Int) (U : Int → Int) (k : Int) (j : Nat) : Int := (List.range j).foldl (fun b (s : Nat) => bet b (wrap64 (U ((s : Int) + 1 + k) - U ((s : Int) + 1)))) (U k)
theorem bestTo_succ (bet : Int → Int → Int) (U : Int → Int) (k : Int) (j : Nat) : bestTo bet U k (j + 1) = bet (bestTo bet U k j) (wrap64 (U ((j : Int) + 1 + k) - U ((j : Int) + 1))) := by
  simp [bestTo, List.range_succ, List.foldl_append]
def bests (bet : Int → Int → Int) (U : Int → Int) (n i : Nat) : List Int := (List.range i).map fun (k : Nat) => bestTo bet U (k : Int) n
theorem bests_succ (bet : Int → Int → Int) (U : Int → Int) (n i : Nat) : bests bet U n (i + 1) = bests bet U n i ++ [bestTo bet U (i : Int) n] := by
  simp [bests, List.range_succ]
theorem bests_mem (bet : Int → Int → Int) (U : Int → Int) (n : Nat) {i m : Nat} (h : i < m) : bestTo bet U (i : Int) n ∈ bests bet U n m := List.mem_map.2 ⟨i, List.mem_range.2 h, rfl⟩
theorem bests_len (bet : Int → Int → Int) (U : Int → Int) (n i : Nat) : (bests bet U n i).length = i := by simp [bests]
def winF (bet : Int → Int → Int) (l : List Int) (slope : Int) : List Int × Int × Int :=
  if 4096 ≤ l.length then ([], 0, 6) else if ∃ x ∈ l, ¬ TimeOk x then ([], 0, 2) else if ¬ TimeOk l.sum ∨ ¬ TimeOk slope then ([], 0, 2)
  else if ∃ x ∈ bests bet (upF (sumsOf l) l.length slope) l.length (l.length + 1), 1073741824 < x then ([], 0, 2) else (bests bet (upF (sumsOf l) l.length slope) l.length (l.length + 1), slope, 0)
end Go.Proofs.Ytanlonngekgibaa.Pr

/- newCarrier and plan, as planner.Best uses them. -/
import Derived.Test.YtcflacjidabppaaGPlan
namespace Go.Proofs.Ytcflacjidabppaa.Pr
open Go.RowKit Go.Proofs.YtcflacjidabppaaW.PrintWords Go.Proofs.YtcflacjidabppaaW.PrintLast Go.Proofs.YtcflacjidabppaaW.PrintMore
set_option linter.unusedVariables false
set_option linter.unusedSimpArgs false
def okCap (l : List Int) : Bool := decide (l.length ≤ 4096) && l.all (fun x => decide (0 ≤ x) && decide (x ≤ 4096))
theorem okCap_iff (l : List Int) : okCap l = true ↔ l.length ≤ 4096 ∧ ∀ x ∈ l, 0 ≤ x ∧ x ≤ 4096 := by
  simp [okCap, List.all_eq_true]
/-- What newCarrier lays down. -/
def NEWCV.f (l : List Int) : Option (List Int × Int) := if okCap l = true then some (sumsOf l, rd l ((l.length : Int) - 1)) else none
theorem NEWCV.calls (A : Option Addr) (c : Nat) (l : List Int) (r1 : List Int) (r2 : Int) (w : World) (hr : Kd.C (Kd.int .i64) w A l.length l) (hc : l.length ≤ c) (h : NEWCV.f l = some (r1, r2)) :
    Calls Try.prog 36 #[.slice A l.length c] w fun e w' => ∃ g A2 c2, e = .returned (.pointer (some ⟨g, 0, none⟩)) ∧ w'.heap[g]? = some (.cells #[.slice A2 r1.length c2, .int .i64 r2] 91 (0, 0)) ∧ (Kd.int .i64).R 3 w' w.heap.size (fun k => k ≠ g) (.slice A2 r1.length c2) r1 ∧ w.heap.size ≤ g ∧ Below w.heap.size w w' := by
  unfold NEWCV.f at h
  split at h
  · rename_i ho
    obtain ⟨h1, h2⟩ := (okCap_iff l).1 ho
    have e := Option.some.inj h
    simp only [Prod.mk.injEq] at e
    obtain ⟨rfl, rfl⟩ := e
    exact newCarrier_own A c l w hr hc h1 h2
  · cases h
def okSums (sums : List Int) (last : Int) : Bool := decide (1 ≤ sums.length) && decide (sums.length ≤ 5000) && sums.all (fun x => decide (0 ≤ x) && decide (x ≤ 17000000)) && decide (0 ≤ last) && decide (last ≤ 4096) && decide (sums.Pairwise (fun a b => a ≤ b))
theorem rd_get (l : List Int) (i : Nat) (h : i < l.length) : rd l (i : Int) = l[i] := by simp [rd, List.getD_eq_getElem?_getD, List.getElem?_eq_getElem h]
theorem okSums_iff (sums : List Int) (last : Int) : okSums sums last = true ↔ Small sums last ∧ Up sums := by
  simp only [okSums, Bool.and_eq_true, decide_eq_true_eq, List.all_eq_true, Small]
  constructor
  · rintro ⟨⟨⟨⟨⟨h1, h2⟩, h3⟩, h4⟩, h5⟩, h6⟩
    refine ⟨⟨h1, h2, h3, h4, h5⟩, fun i j h0 hij hj => ?_⟩
    by_cases e : i = j
    · subst e; exact Int.le_refl _
    · obtain ⟨a, rfl⟩ := Int.eq_ofNat_of_zero_le h0
      obtain ⟨b, rfl⟩ := Int.eq_ofNat_of_zero_le (show 0 ≤ j by omega)
      have hab : a < b := by omega
      have hb : b < sums.length := by omega
      rw [rd_get sums a (by omega), rd_get sums b hb]
      exact List.pairwise_iff_getElem.1 h6 a b (by omega) hb hab
  · rintro ⟨⟨h1, h2, h3, h4, h5⟩, hU⟩
    refine ⟨⟨⟨⟨⟨h1, h2⟩, h3⟩, h4⟩, h5⟩, List.pairwise_iff_getElem.2 fun a b ha hb hab => ?_⟩
    have := hU (a : Int) (b : Int) (by omega) (by omega) (by omega)
    rw [rd_get sums a ha, rd_get sums b hb] at this
    exact this
def PLANV.f (k : Nat) (l0_0 l0_1 : List Int) (a0_2 a0_3 a0_4 : Int) (sums : List Int) (last : Int) : Option (List Int × List Int × List Int × List Int × Int × Int) :=
  if okSums sums last = true then planner_plan.f k l0_0 l0_1 a0_2 a0_3 a0_4 0 sums last else none
theorem PLANV.mono : ∀ a0 a1 a2 a3 a4 a5 a6 k, LeO (PLANV.f k a0 a1 a2 a3 a4 a5 a6) (PLANV.f (k + 1) a0 a1 a2 a3 a4 a5 a6) := by
  intro a0 a1 a2 a3 a4 a5 a6 k
  unfold PLANV.f
  by_cases h : okSums a5 a6 = true
  · rw [if_pos h, if_pos h]
    exact planner_plan.mono _ _ _ _ _ _ _ _ _
  · rw [if_neg h, if_neg h]
    exact LeO.refl _
theorem plan_same (k : Nat) (l0_0 l0_1 : List Int) (a b c : Int) (g : Nat) (sums : List Int) (last : Int) : planner_plan.f k l0_0 l0_1 a b c g sums last = planner_plan.f k l0_0 l0_1 a b c 0 sums last := rfl
theorem PLANV.calls (g : Nat) (k : Nat) (A0_0 : Option Addr) (c0_0 : Nat) (l0_0 : List Int) (A0_1 : Option Addr) (c0_1 : Nat) (l0_1 : List Int) (a0_2 : Int) (a0_3 : Int) (a0_4 : Int) (As : Option Addr) (cs : Nat) (sums : List Int) (last : Int) (r1 : List Int) (r2 : List Int) (r3 : List Int) (r4 : List Int) (r5 : Int) (r6 : Int) (w : World) (hr0_0 : Kd.C (Kd.int .i64) w A0_0 l0_0.length l0_0) (hc0_0 : l0_0.length ≤ c0_0) (hr0_1 : Kd.C (Kd.int .i64) w A0_1 l0_1.length l0_1) (hc0_1 : l0_1.length ≤ c0_1) (hrs : Kd.C (Kd.int .i64) w As sums.length sums) (hcs : sums.length ≤ cs) (h : PLANV.f k l0_0 l0_1 a0_2 a0_3 a0_4 sums last = some (r1, r2, r3, r4, r5, r6)) (hb : w.heap[g]? = some (.cells #[.slice As sums.length cs, .int .i64 last] 91 (0, 0))) :
    Calls Try.prog 35 #[.agg #[.slice A0_0 l0_0.length c0_0, .slice A0_1 l0_1.length c0_1, .int .i64 a0_2, .int .i64 a0_3, .int .i64 a0_4], .func (.func 37) #[.pointer (some ⟨g, 0, none⟩)] #[]] w fun e w' => ∃ v0_ v1_ v2_ v3_ : Value, e = .returned (.tuple #[.agg #[v0_, v1_, v2_, v3_, .int .i64 r5], .int .i64 r6]) ∧ Kd.R (Kd.int .i64) 3 w' w.heap.size (fun k_ => some k_ ≠ (v1_ : Value).ownBlock ∧ some k_ ≠ (v2_ : Value).ownBlock ∧ some k_ ≠ (v3_ : Value).ownBlock) v0_ r1 ∧ Kd.R (Kd.int .i64) 3 w' w.heap.size (fun k_ => some k_ ≠ (v0_ : Value).ownBlock ∧ some k_ ≠ (v2_ : Value).ownBlock ∧ some k_ ≠ (v3_ : Value).ownBlock) v1_ r2 ∧ Kd.R (Kd.int .i64) 3 w' w.heap.size (fun k_ => some k_ ≠ (v0_ : Value).ownBlock ∧ some k_ ≠ (v1_ : Value).ownBlock ∧ some k_ ≠ (v3_ : Value).ownBlock) v2_ r3 ∧ Kd.R (Kd.int .i64) 3 w' w.heap.size (fun k_ => some k_ ≠ (v0_ : Value).ownBlock ∧ some k_ ≠ (v1_ : Value).ownBlock ∧ some k_ ≠ (v2_ : Value).ownBlock) v3_ r4 ∧ Below w.heap.size w w' := by
  unfold PLANV.f at h
  split at h
  · rename_i hs0
    have hs := (okSums_iff sums last).1 hs0
    exact planner_plan.calls k A0_0 c0_0 l0_0 A0_1 c0_1 l0_1 a0_2 a0_3 a0_4 g sums last r1 r2 r3 r4 r5 r6 w hr0_0 hc0_0 hr0_1 hc0_1 ⟨As, cs, hb, hcs, hrs⟩ hs.1 hs.2 ((plan_same ..).trans h)
  · cases h
end Go.Proofs.Ytcflacjidabppaa.Pr

/- small of standbylaw56. -/
import Derived.Test.YtcflacjidabppaaGSectors
import Derived.Test.YtcflacjidabppaaF15
import Derived.Test.YtcflacjidabppaaF11
import Derived.Test.YtcflacjidabppaaGFn
namespace Go.Proofs.Ytcflacjidabppaa.Pr
open Go.RowKit Go.Proofs.YtcflacjidabppaaW.PrintWords Go.Proofs.YtcflacjidabppaaW.PrintLast Go.Proofs.YtcflacjidabppaaW.PrintMore
set_option linter.unusedVariables false
set_option linter.unusedSimpArgs false

def bigI (x : Int) : Bool := decide (x < 0) || decide (x > 20)
theorem big_pred : PredI 45 bigI := by
  intro x w
  go_enter Try.func45, Try.ntmps45
  unfold bigI
  by_cases h : x < 0
  · have e := decide_eq_true h
    have HE : Aside0 ((decide (x < 0) || decide (x > 20)) = true) := ⟨by rw [decide_eq_true h]; rfl⟩
    clear h
    go_wp2
    go_ret
    exact ⟨by rw [HE.out]; rfl, Drawn0.refl _⟩
  · have e := decide_eq_false h
    have HE : Aside0 ((decide (x < 0) || decide (x > 20)) = decide (x > 20)) := ⟨by rw [decide_eq_false h]; rfl⟩
    clear h
    go_wp2
    go_ret
    exact ⟨by rw [HE.out]; rfl, Drawn0.refl _⟩

/-- Is a trace small, in order, with small numbers. -/
def standbylaw56_small.f (k : Nat) (l0_0 : List Int) (l0_1 : List Int) (a0_2 : Int) (a0_3 : Int) (a0_4 : Int) : Option Bool :=
  (standbyref56_Few.f l0_0 l0_1 a0_2 a0_3 a0_4).bind fun b => if b = true then (planner_Check.f k l0_0 l0_1 a0_2 a0_3 a0_4).bind fun e =>
    some (decide (e = 0) && (!(l0_0.any bigI) && (!(l0_1.any bigI) && (decide (a0_2 ≤ 60) && (decide (a0_3 ≤ 30) && decide (a0_4 ≤ 30)))))) else some false
theorem standbylaw56_small.mono : ∀ a0 a1 a2 a3 a4 k, LeO (standbylaw56_small.f k a0 a1 a2 a3 a4) (standbylaw56_small.f (k + 1) a0 a1 a2 a3 a4) := by
  intro a0 a1 a2 a3 a4 k
  unfold standbylaw56_small.f
  exact LeO.bind (LeO.refl _) (fun b => LeO.ite (LeO.bind (planner_Check.mono _ _ _ _ _ _) (fun e => LeO.refl _)) (LeO.refl _))

set_option maxHeartbeats 4000000 in
set_option maxRecDepth 100000 in
theorem standbylaw56_small.calls (k : Nat) (A0_0 : Option Addr) (c0_0 : Nat) (l0_0 : List Int) (A0_1 : Option Addr) (c0_1 : Nat) (l0_1 : List Int) (a0_2 : Int) (a0_3 : Int) (a0_4 : Int) (r : Bool) (w : World) (hr0_0 : Kd.C (Kd.int .i64) w A0_0 l0_0.length l0_0) (hc0_0 : l0_0.length ≤ c0_0) (hr0_1 : Kd.C (Kd.int .i64) w A0_1 l0_1.length l0_1) (hc0_1 : l0_1.length ≤ c0_1) (h : standbylaw56_small.f k l0_0 l0_1 a0_2 a0_3 a0_4 = some r) :
    Calls Try.prog 23 #[.agg #[.slice A0_0 l0_0.length c0_0, .slice A0_1 l0_1.length c0_1, .int .i64 a0_2, .int .i64 a0_3, .int .i64 a0_4]] w fun e w' => e = .returned (.bool r) ∧ Below w.heap.size w w' := by
  unfold standbylaw56_small.f at h
  obtain ⟨b, hb, h⟩ := Option.bind_eq_some_iff.1 h
  have HR : Aside0 (∀ W, Below w.heap.size w W → Kd.C (Kd.int .i64) W A0_0 l0_0.length l0_0 ∧ Kd.C (Kd.int .i64) W A0_1 l0_1.length l0_1) := ⟨fun W hW => ⟨Kd.C_below hr0_0 hW, Kd.C_below hr0_1 hW⟩⟩
  have HF := Aside0.mk hb
  have h01 : Below w.heap.size w (w.alloc (.cells #[.slice A0_0 l0_0.length c0_0, .slice A0_1 l0_1.length c0_1, .int .i64 a0_2, .int .i64 a0_3, .int .i64 a0_4] 24)) := below_alloc (Below.refl _ _) _
  have H01 := Aside0.mk h01
  have HK1 := Aside0.mk (show (w.alloc (.cells #[.slice A0_0 l0_0.length c0_0, .slice A0_1 l0_1.length c0_1, .int .i64 a0_2, .int .i64 a0_3, .int .i64 a0_4] 24)).heap[w.heap.size]? = some (.cells #[.slice A0_0 l0_0.length c0_0, .slice A0_1 l0_1.length c0_1, .int .i64 a0_2, .int .i64 a0_3, .int .i64 a0_4] 24 (0, 0)) from heap_alloc_new w _)
  clear hr0_0 hr0_1 hb h01
  go_enter Try.func23, Try.ntmps23
  go_wp2_with fail
  refine (standbyref56_Few.calls A0_0 c0_0 l0_0 A0_1 c0_1 l0_1 a0_2 a0_3 a0_4 b _ (HR.out _ H01.out).1 hc0_0 (HR.out _ H01.out).2 hc0_1 HF.out).mono ?_
  rintro e w1 ⟨rfl, hb⟩
  have HB1 := Aside0.mk (below_then H01.out H01.out.size hb)
  have hk := blk_below HK1.out hb
  have TB1 := Aside0.mk hk
  clear hb HK1
  have t0 := (blk_cell hk 0).trans rfl
  have t1 := (blk_cell hk 1).trans rfl
  have t2 := (blk_cell hk 2).trans rfl
  have t3 := (blk_cell hk 3).trans rfl
  have t4 := (blk_cell hk 4).trans rfl
  clear hk
  cases b with
  | false =>
    obtain rfl : false = r := Option.some.inj (by simpa using h)
    clear h
    go_wp2
    go_ret
    exact ⟨rfl, HB1.out⟩
  | true =>
    rw [if_pos rfl] at h
    obtain ⟨e, he, h⟩ := Option.bind_eq_some_iff.1 h
    have HE := Aside0.mk he
    have HH := Aside0.mk (Option.some.inj h)
    clear h he
    go_wp2_with fail
    refine (planner_Check.calls k A0_0 c0_0 l0_0 A0_1 c0_1 l0_1 a0_2 a0_3 a0_4 e _ (HR.out _ HB1.out).1 hc0_0 (HR.out _ HB1.out).2 hc0_1 HE.out).mono ?_
    rintro e1 w2 ⟨rfl, hb⟩
    have HB2 := Aside0.mk (below_then HB1.out HB1.out.size hb)
    have hk := blk_below TB1.out hb
    have TB2 := Aside0.mk hk
    clear hb TB1 t0 t1 t2 t3 t4
    have t0 := (blk_cell hk 0).trans rfl
    have t1 := (blk_cell hk 1).trans rfl
    have t2 := (blk_cell hk 2).trans rfl
    have t3 := (blk_cell hk 3).trans rfl
    have t4 := (blk_cell hk 4).trans rfl
    clear hk
    by_cases hz : e = 0
    · subst hz
      go_wp2_with fail
      refine (ContainsFunc_calls 45 _ big_pred (enters_of Try.func45 (by kernel_rfl) rfl) A0_0 c0_0 l0_0 _ (HR.out _ HB2.out).1 hc0_0).mono ?_
      rintro e2 w3 ⟨rfl, hd⟩
      have hb := hd.below
      have HB3 := Aside0.mk (below_then HB2.out HB2.out.size hb)
      have hk := blk_below TB2.out hb
      have TB3 := Aside0.mk hk
      clear hb hd TB2 t0 t1 t2 t3 t4
      have t1 := (blk_cell hk 1).trans rfl
      have t2 := (blk_cell hk 2).trans rfl
      have t3 := (blk_cell hk 3).trans rfl
      have t4 := (blk_cell hk 4).trans rfl
      clear hk
      obtain ⟨b0, hb0⟩ : ∃ b0, Aside0 (l0_0.any bigI = b0) := ⟨_, ⟨rfl⟩⟩
      rw [hb0.out]
      cases b0 with
      | true =>
        have HR2 : Aside0 (false = r) := ⟨by rw [← HH.out, hb0.out]; simp⟩
        go_wp2
        go_ret
        exact ⟨by rw [← HR2.out]; rfl, HB3.out⟩
      | false =>
        go_wp2_with fail
        refine (ContainsFunc_calls 45 _ big_pred (enters_of Try.func45 (by kernel_rfl) rfl) A0_1 c0_1 l0_1 _ (HR.out _ HB3.out).2 hc0_1).mono ?_
        rintro e3 w4 ⟨rfl, hd⟩
        have hb := hd.below
        have HB4 := Aside0.mk (below_then HB3.out HB3.out.size hb)
        have hk := blk_below TB3.out hb
        clear hb hd TB3 t1 t2 t3 t4
        have t2 := (blk_cell hk 2).trans rfl
        have t3 := (blk_cell hk 3).trans rfl
        have t4 := (blk_cell hk 4).trans rfl
        clear hk
        obtain ⟨b1, hb1⟩ : ∃ b1, Aside0 (l0_1.any bigI = b1) := ⟨_, ⟨rfl⟩⟩
        rw [hb1.out]
        cases b1 with
        | true =>
          have HR2 : Aside0 (false = r) := ⟨by rw [← HH.out, hb0.out, hb1.out]; simp⟩
          go_wp2
          go_ret
          exact ⟨by rw [← HR2.out]; rfl, HB4.out⟩
        | false =>
          by_cases h2 : a0_2 ≤ 60
          · have e2 := decide_eq_true h2
            by_cases h3 : a0_3 ≤ 30
            · have e3 := decide_eq_true h3
              by_cases h4 : a0_4 ≤ 30
              · have e4 := decide_eq_true h4
                have HR2 : Aside0 (true = r) := ⟨by rw [← HH.out, hb0.out, hb1.out, e2, e3, e4]; simp⟩
                clear h2 h3 h4
                go_wp2
                go_ret
                exact ⟨by rw [← HR2.out]; rfl, HB4.out⟩
              · have e4 := decide_eq_false h4
                have HR2 : Aside0 (false = r) := ⟨by rw [← HH.out, e4]; simp⟩
                clear h2 h3 h4
                go_wp2
                go_ret
                exact ⟨by rw [← HR2.out]; rfl, HB4.out⟩
            · have e3 := decide_eq_false h3
              have HR2 : Aside0 (false = r) := ⟨by rw [← HH.out, e3]; simp⟩
              clear h2 h3
              go_wp2
              go_ret
              exact ⟨by rw [← HR2.out]; rfl, HB4.out⟩
          · have e2 := decide_eq_false h2
            have HR2 : Aside0 (false = r) := ⟨by rw [← HH.out, e2]; simp⟩
            clear h2
            go_wp2
            go_ret
            exact ⟨by rw [← HR2.out]; rfl, HB4.out⟩
    · have hz2 : (e == 0) = false := by simpa using hz
      have HR2 : Aside0 (false = r) := ⟨by rw [← HH.out, decide_eq_false hz]; rfl⟩
      clear hz
      go_wp2
      go_ret
      exact ⟨by rw [← HR2.out]; rfl, HB2.out⟩
end Go.Proofs.Ytcflacjidabppaa.Pr

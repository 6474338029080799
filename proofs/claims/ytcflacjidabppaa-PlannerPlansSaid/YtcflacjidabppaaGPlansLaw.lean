/- The law PlannerPlans answers true. -/
import Derived.Test.YtcflacjidabppaaGPlanV
import Derived.Test.YtcflacjidabppaaGAwake
import Derived.Test.YtcflacjidabppaaF11
namespace Go.Proofs.Ytcflacjidabppaa.Pr
open Go.RowKit Go.Proofs.YtcflacjidabppaaW.PrintWords Go.Proofs.YtcflacjidabppaaW.PrintLast Go.Proofs.YtcflacjidabppaaW.PrintMore
set_option linter.unusedVariables false
set_option linter.unusedSimpArgs false
attribute [local go_sem] max2_int min2_int max_two min_two max_three min_three max_four min_four

theorem chk1_run (A0 : Option Addr) (c0 : Nat) (l0 : List Int) (A1 : Option Addr) (c1 : Nat) (l1 : List Int) (x2 x3 x4 c : Int) (w : World) (h : Kd.C (Kd.int .i64) w A0 l0.length l0 ∧ Kd.C (Kd.int .i64) w A1 l1.length l1) (h0 : l0.length ≤ c0) (h1 : l1.length ≤ c1) (hc : planner_Check.f 40000 l0 l1 x2 x3 x4 = some c) :
    Calls Try.prog 15 #[.agg #[.slice A0 l0.length c0, .slice A1 l1.length c1, .int .i64 x2, .int .i64 x3, .int .i64 x4]] w fun e w' => e = .returned (.int .i64 c) ∧ Below w.heap.size w w' :=
  planner_Check.calls 40000 A0 c0 l0 A1 c1 l1 x2 x3 x4 c w h.1 h0 h.2 h1 hc
theorem chk2_run (A0 : Option Addr) (c0 : Nat) (l0 : List Int) (A1 : Option Addr) (c1 : Nat) (l1 : List Int) (x2 x3 x4 c : Int) (w : World) (h : Kd.C (Kd.int .i64) w A0 l0.length l0 ∧ Kd.C (Kd.int .i64) w A1 l1.length l1) (h0 : l0.length ≤ c0) (h1 : l1.length ≤ c1) (hc : standbyref56_Check.f 40000 l0 l1 x2 x3 x4 = some c) :
    Calls Try.prog 16 #[.agg #[.slice A0 l0.length c0, .slice A1 l1.length c1, .int .i64 x2, .int .i64 x3, .int .i64 x4]] w fun e w' => e = .returned (.int .i64 c) ∧ Below w.heap.size w w' :=
  standbyref56_Check.calls 40000 A0 c0 l0 A1 c1 l1 x2 x3 x4 c w h.1 h0 h.2 h1 hc
theorem awake_at {ws : World} (w : World) (_ : Below ws.heap.size ws w) : Calls Try.prog 12 #[] w fun e w' => e = .returned (.bool true) ∧ Below w.heap.size w w' := awake_run w

/-- A plan as it lies in memory. -/
def PlanC (w : World) (B0 B1 B2 B3 : Option Addr) (r1 r2 r3 r4 : List Int) : Prop := Kd.C (Kd.int .i64) w B0 r1.length r1 ∧ Kd.C (Kd.int .i64) w B1 r2.length r2 ∧ Kd.C (Kd.int .i64) w B2 r3.length r3 ∧ Kd.C (Kd.int .i64) w B3 r4.length r4
theorem PlanC.below {w w1 : World} {B0 B1 B2 B3 : Option Addr} {r1 r2 r3 r4 : List Int} (h : PlanC w B0 B1 B2 B3 r1 r2 r3 r4) (hb : Below w.heap.size w w1) : PlanC w1 B0 B1 B2 B3 r1 r2 r3 r4 :=
  ⟨Kd.C_below h.1 hb, Kd.C_below h.2.1 hb, Kd.C_below h.2.2.1 hb, Kd.C_below h.2.2.2 hb⟩

theorem same_run (B0 : Option Addr) (d0 : Nat) (B1 : Option Addr) (d1 : Nat) (B2 : Option Addr) (d2 : Nat) (B3 : Option Addr) (d3 : Nat) (D0 : Option Addr) (g0 : Nat) (D1 : Option Addr) (g1 : Nat) (D2 : Option Addr) (g2 : Nat) (D3 : Option Addr) (g3 : Nat)
    (r1 r2 r3 r4 : List Int) (r5 : Int) (w : World) (hl : r1.length ≤ 4096 ∧ r2.length ≤ 4096 ∧ r3.length ≤ 4096 ∧ r4.length ≤ 4096) (hd : (r1.length ≤ d0 ∧ r2.length ≤ d1 ∧ r3.length ≤ d2 ∧ r4.length ≤ d3) ∧ (r1.length ≤ g0 ∧ r2.length ≤ g1 ∧ r3.length ≤ g2 ∧ r4.length ≤ g3))
    (h : PlanC w B0 B1 B2 B3 r1 r2 r3 r4 ∧ PlanC w D0 D1 D2 D3 r1 r2 r3 r4) :
    Calls Try.prog 17 #[.agg #[.slice B0 r1.length d0, .slice B1 r2.length d1, .slice B2 r3.length d2, .slice B3 r4.length d3, .int .i64 r5], .agg #[.slice D0 r1.length g0, .slice D1 r2.length g1, .slice D2 r3.length g2, .slice D3 r4.length g3, .int .i64 r5]] w fun e w' => e = .returned (.bool true) ∧ Below w.heap.size w w' :=
  standbyref56_Same.calls 40000 B0 d0 r1 B1 d1 r2 B2 d2 r3 B3 d3 r4 r5 D0 g0 r1 D1 g1 r2 D2 g2 r3 D3 g3 r4 r5 true w h.1.1 hd.1.1 h.1.2.1 hd.1.2.1 h.1.2.2.1 hd.1.2.2.1 h.1.2.2.2 hd.1.2.2.2 h.2.1 hd.2.1 h.2.2.1 hd.2.2.1 h.2.2.2.1 hd.2.2.2.1 h.2.2.2.2 hd.2.2.2.2 (Same_f r1 r2 r3 r4 r5 40000 hl (by omega))

theorem plan1_run (A0 : Option Addr) (c0 : Nat) (l0 : List Int) (A1 : Option Addr) (c1 : Nat) (l1 : List Int) (x2 x3 x4 : Int) (r1 r2 r3 r4 : List Int) (r5 r6 : Int) (w : World) (h : Kd.C (Kd.int .i64) w A0 l0.length l0 ∧ Kd.C (Kd.int .i64) w A1 l1.length l1) (h0 : l0.length ≤ c0) (h1 : l1.length ≤ c1) (hp : planner_Plan.f 40000 l0 l1 x2 x3 x4 = some (r1, r2, r3, r4, r5, r6)) :
    Calls Try.prog 13 #[.agg #[.slice A0 l0.length c0, .slice A1 l1.length c1, .int .i64 x2, .int .i64 x3, .int .i64 x4]] w fun e w' => ∃ B0 d0 B1 d1 B2 d2 B3 d3, e = .returned (.tuple #[.agg #[.slice B0 r1.length d0, .slice B1 r2.length d1, .slice B2 r3.length d2, .slice B3 r4.length d3, .int .i64 r5], .int .i64 r6]) ∧ (r1.length ≤ d0 ∧ r2.length ≤ d1 ∧ r3.length ≤ d2 ∧ r4.length ≤ d3) ∧ PlanC w' B0 B1 B2 B3 r1 r2 r3 r4 ∧ Below w.heap.size w w' := by
  refine (planner_Plan.calls 40000 A0 c0 l0 A1 c1 l1 x2 x3 x4 r1 r2 r3 r4 r5 r6 w h.1 h0 h.2 h1 hp).mono ?_
  rintro e w' ⟨v0, v1, v2, v3, rfl, R0, R1, R2, R3, hb⟩
  obtain ⟨B0, d0, rfl, e0, k0⟩ := Kd.R_reads R0
  obtain ⟨B1, d1, rfl, e1, k1⟩ := Kd.R_reads R1
  obtain ⟨B2, d2, rfl, e2, k2⟩ := Kd.R_reads R2
  obtain ⟨B3, d3, rfl, e3, k3⟩ := Kd.R_reads R3
  exact ⟨B0, d0, B1, d1, B2, d2, B3, d3, rfl, ⟨e0, e1, e2, e3⟩, ⟨k0, k1, k2, k3⟩, hb⟩
theorem plan2_run (A0 : Option Addr) (c0 : Nat) (l0 : List Int) (A1 : Option Addr) (c1 : Nat) (l1 : List Int) (x2 x3 x4 : Int) (r1 r2 r3 r4 : List Int) (r5 r6 : Int) (w : World) (h : Kd.C (Kd.int .i64) w A0 l0.length l0 ∧ Kd.C (Kd.int .i64) w A1 l1.length l1) (h0 : l0.length ≤ c0) (h1 : l1.length ≤ c1) (hp : standbyref56_Plan.f 40000 l0 l1 x2 x3 x4 = some (r1, r2, r3, r4, r5, r6)) :
    Calls Try.prog 14 #[.agg #[.slice A0 l0.length c0, .slice A1 l1.length c1, .int .i64 x2, .int .i64 x3, .int .i64 x4]] w fun e w' => ∃ B0 d0 B1 d1 B2 d2 B3 d3, e = .returned (.tuple #[.agg #[.slice B0 r1.length d0, .slice B1 r2.length d1, .slice B2 r3.length d2, .slice B3 r4.length d3, .int .i64 r5], .int .i64 r6]) ∧ (r1.length ≤ d0 ∧ r2.length ≤ d1 ∧ r3.length ≤ d2 ∧ r4.length ≤ d3) ∧ PlanC w' B0 B1 B2 B3 r1 r2 r3 r4 ∧ Below w.heap.size w w' := by
  refine (standbyref56_Plan.calls 40000 A0 c0 l0 A1 c1 l1 x2 x3 x4 r1 r2 r3 r4 r5 r6 w h.1 h0 h.2 h1 hp).mono ?_
  rintro e w' ⟨v0, v1, v2, v3, rfl, R0, R1, R2, R3, hb⟩
  obtain ⟨B0, d0, rfl, e0, k0⟩ := Kd.R_reads R0
  obtain ⟨B1, d1, rfl, e1, k1⟩ := Kd.R_reads R1
  obtain ⟨B2, d2, rfl, e2, k2⟩ := Kd.R_reads R2
  obtain ⟨B3, d3, rfl, e3, k3⟩ := Kd.R_reads R3
  exact ⟨B0, d0, B1, d1, B2, d2, B3, d3, rfl, ⟨e0, e1, e2, e3⟩, ⟨k0, k1, k2, k3⟩, hb⟩

set_option maxHeartbeats 4000000 in
set_option maxRecDepth 100000 in
theorem PlannerPlans_run (A0 : Option Addr) (c0 : Nat) (l0 : List Int) (A1 : Option Addr) (c1 : Nat) (l1 : List Int) (x2 x3 x4 : Int) (w : World) (hr0 : Kd.C (Kd.int .i64) w A0 l0.length l0) (hc0 : l0.length ≤ c0) (hr1 : Kd.C (Kd.int .i64) w A1 l1.length l1) (hc1 : l1.length ≤ c1) :
    Calls Try.prog 3 #[.agg #[.slice A0 l0.length c0, .slice A1 l1.length c1, .int .i64 x2, .int .i64 x3, .int .i64 x4]] w fun e w' => e = .returned (.bool true) ∧ Below w.heap.size w w' := by
  have HR00 : Aside0 (∀ W, Below w.heap.size w W → Kd.C (Kd.int .i64) W A0 l0.length l0 ∧ Kd.C (Kd.int .i64) W A1 l1.length l1) := ⟨fun W hW => ⟨Kd.C_below hr0 hW, Kd.C_below hr1 hW⟩⟩
  clear hr0 hr1
  have hfew : ∃ b, standbyref56_Few.f l0 l1 x2 x3 x4 = some b ∧ (b = true → l0.length ≤ 40 ∧ l1.length ≤ 60) := by
    unfold standbyref56_Few.f
    by_cases h1 : (l0.length : Int) ≤ 40
    · rw [if_pos h1]
      exact ⟨_, rfl, fun h => by have := of_decide_eq_true h; omega⟩
    · rw [if_neg h1]; exact ⟨_, rfl, fun h => by cases h⟩
  obtain ⟨b, hb, hfew⟩ := hfew
  have HF := Aside0.mk hb
  have h01 : Below w.heap.size w (w.alloc (.cells #[.slice A0 l0.length c0, .slice A1 l1.length c1, .int .i64 x2, .int .i64 x3, .int .i64 x4] 24)) := below_alloc (Below.refl _ _) _
  have hk1 : (w.alloc (.cells #[.slice A0 l0.length c0, .slice A1 l1.length c1, .int .i64 x2, .int .i64 x3, .int .i64 x4] 24)).heap[w.heap.size]? = some (.cells #[.slice A0 l0.length c0, .slice A1 l1.length c1, .int .i64 x2, .int .i64 x3, .int .i64 x4] 24 (0, 0)) := heap_alloc_new w _
  have H01 := Aside0.mk h01
  have HK1 := Aside0.mk hk1
  clear hb h01 hk1
  go_enter Try.func3, Try.ntmps3
  go_wp2_with fail
  refine (standbyref56_Few.calls A0 c0 l0 A1 c1 l1 x2 x3 x4 b _ (HR00.out _ H01.out).1 hc0 (HR00.out _ H01.out).2 hc1 HF.out).mono ?_
  rintro e w1 ⟨rfl, hb⟩
  have HB1 := Aside0.mk (below_then H01.out H01.out.size hb)
  have TB1 := Aside0.mk (blk_below HK1.out hb)
  clear hb HK1
  cases b with
  | false =>
    clear hfew
    go_wp2_with fail
    refine (awake_run w1).mono ?_
    rintro e w2 ⟨rfl, hb⟩
    have HB2 := Aside0.mk (below_then HB1.out HB1.out.size hb)
    clear hb
    go_wp2
    go_ret
    exact ⟨rfl, HB2.out⟩
  | true =>
    obtain ⟨hW, hC⟩ := hfew rfl
    obtain ⟨⟨r1, r2, r3, r4, r5, r6⟩, hV⟩ : ∃ v, planV l0 l1 x2 x3 x4 = v := ⟨_, rfl⟩
    obtain ⟨c, hcv⟩ : ∃ c, chkV l0 l1 x2 x3 x4 = c := ⟨_, rfl⟩
    have hlen := planV_len l0 l1 x2 x3 x4
    rw [hV] at hlen
    simp only at hlen
    have HLN : Aside0 (r1.length ≤ 4096 ∧ r2.length ≤ 4096 ∧ r3.length ≤ 4096 ∧ r4.length ≤ 4096) := ⟨by omega⟩
    have HP1 := Aside0.mk ((planPlan_f l0 l1 x2 x3 x4 40000 (by omega)).trans (congrArg some hV))
    have HP2 := Aside0.mk ((refPlan_f l0 l1 x2 x3 x4 40000 (by omega) (by omega) (by omega)).trans (congrArg some hV))
    have HC1 := Aside0.mk ((planCheck_f l0 l1 x2 x3 x4 40000 (by omega)).trans (congrArg some hcv))
    have HC2 := Aside0.mk ((refCheck_f l0 l1 x2 x3 x4 40000 (by omega)).trans (congrArg some hcv))
    clear hW hC hV hcv hlen hfew
    have e1 : (c == c) = true := by simp
    have e2 : (r6 == r6) = true := by simp
    have t0 := (blk_cell TB1.out 0).trans rfl
    have t1 := (blk_cell TB1.out 1).trans rfl
    have t2 := (blk_cell TB1.out 2).trans rfl
    have t3 := (blk_cell TB1.out 3).trans rfl
    have t4 := (blk_cell TB1.out 4).trans rfl
    go_wp2_with fail
    refine (plan1_run A0 c0 l0 A1 c1 l1 x2 x3 x4 r1 r2 r3 r4 r5 r6 w1 (HR00.out _ HB1.out) hc0 hc1 HP1.out).mono ?_
    rintro e w2 ⟨B0, d0, B1, d1, B2, d2, B3, d3, rfl, hd, hpc, hb⟩
    clear t0 t1 t2 t3 t4
    go_upto_region 4 with (fail)
    refine name_world ?_
    intro W2 hW2
    have h12 : Below w1.heap.size w1 W2 := by rw [← hW2.out]; exact below_alloc hb _
    have hpb : W2.heap[w2.heap.size]? = some (.cells #[.slice B0 r1.length d0, .slice B1 r2.length d1, .slice B2 r3.length d2, .slice B3 r4.length d3, .int .i64 r5] 28 (0, 0)) := by rw [← hW2.out]; exact heap_alloc_new w2 _
    have hpc2 : PlanC W2 B0 B1 B2 B3 r1 r2 r3 r4 := by rw [← hW2.out]; exact hpc.below (below_alloc (Below.refl _ _) _)
    have HB2 := Aside0.mk (below_then HB1.out HB1.out.size h12)
    have TB2 := Aside0.mk (blk_below TB1.out h12)
    have PB2 := Aside0.mk hpb
    have PC2 := Aside0.mk hpc2
    have HD1 := Aside0.mk hd
    have t0 := (blk_cell TB2.out 0).trans rfl
    have t1 := (blk_cell TB2.out 1).trans rfl
    have t2 := (blk_cell TB2.out 2).trans rfl
    have t3 := (blk_cell TB2.out 3).trans rfl
    have t4 := (blk_cell TB2.out 4).trans rfl
    clear hW2 hd hpc hb h12 hpb hpc2
    obtain ⟨bp, hbp⟩ : ∃ bp, bp = w2.heap.size := ⟨_, rfl⟩
    rw [← hbp] at PB2 ⊢
    clear hbp
    go_wp2_with fail
    refine (plan2_run A0 c0 l0 A1 c1 l1 x2 x3 x4 r1 r2 r3 r4 r5 r6 W2 (HR00.out _ HB2.out) hc0 hc1 HP2.out).mono ?_
    rintro e w3 ⟨D0, g0, D1, g1, D2, g2, D3, g3, rfl, hd, hpc, hb⟩
    clear t0 t1 t2 t3 t4
    go_upto_region 5 with (fail)
    refine name_world ?_
    intro W3 hW3
    have h23 : Below W2.heap.size W2 W3 := by rw [← hW3.out]; exact below_alloc hb _
    have hqb : W3.heap[w3.heap.size]? = some (.cells #[.slice D0 r1.length g0, .slice D1 r2.length g1, .slice D2 r3.length g2, .slice D3 r4.length g3, .int .i64 r5] 28 (0, 0)) := by rw [← hW3.out]; exact heap_alloc_new w3 _
    have hqc : PlanC W3 D0 D1 D2 D3 r1 r2 r3 r4 := by rw [← hW3.out]; exact hpc.below (below_alloc (Below.refl _ _) _)
    have HB3 := Aside0.mk (below_then HB2.out HB2.out.size h23)
    have TB := Aside0.mk (blk_below TB2.out h23)
    have PB := Aside0.mk (blk_below PB2.out h23)
    have QB := Aside0.mk hqb
    have HPQ : Aside0 (∀ W, Below W3.heap.size W3 W → PlanC W B0 B1 B2 B3 r1 r2 r3 r4 ∧ PlanC W D0 D1 D2 D3 r1 r2 r3 r4) := ⟨fun W hW => ⟨(PC2.out.below h23).below hW, hqc.below hW⟩⟩
    have HR : Aside0 (∀ W, Below W3.heap.size W3 W → Kd.C (Kd.int .i64) W A0 l0.length l0 ∧ Kd.C (Kd.int .i64) W A1 l1.length l1) := ⟨fun W hW => HR00.out W (below_then HB3.out HB3.out.size hW)⟩
    have HDD := Aside0.mk (And.intro HD1.out hd)
    have HM0 := Aside0.mk (below_drew (Below.refl W3.heap.size W3))
    clear hW3 hd hpc hb h23 hqb hqc
    obtain ⟨bq, hbq⟩ : ∃ bq, bq = w3.heap.size := ⟨_, rfl⟩
    rw [← hbq] at QB ⊢
    clear hbq
    have x0 := (blk_cell TB.out 0).trans rfl
    have x1 := (blk_cell TB.out 1).trans rfl
    have x2_ := (blk_cell TB.out 2).trans rfl
    have x3_ := (blk_cell TB.out 3).trans rfl
    have x4_ := (blk_cell TB.out 4).trans rfl
    have y0 := (blk_cell PB.out 0).trans rfl
    have y1 := (blk_cell PB.out 1).trans rfl
    have y2 := (blk_cell PB.out 2).trans rfl
    have y3 := (blk_cell PB.out 3).trans rfl
    have y4 := (blk_cell PB.out 4).trans rfl
    have z0 := (blk_cell QB.out 0).trans rfl
    have z1 := (blk_cell QB.out 1).trans rfl
    have z2 := (blk_cell QB.out 2).trans rfl
    have z3 := (blk_cell QB.out 3).trans rfl
    have z4 := (blk_cell QB.out 4).trans rfl
    refine start_ (n := 19) (S := fun w' => w'.cell? ⟨w.heap.size, 0, none⟩ = some (.slice A0 l0.length c0) ∧ w'.cell? ⟨w.heap.size, 1, none⟩ = some (.slice A1 l1.length c1) ∧ w'.cell? ⟨w.heap.size, 2, none⟩ = some (.int .i64 x2) ∧ w'.cell? ⟨w.heap.size, 3, none⟩ = some (.int .i64 x3) ∧ w'.cell? ⟨w.heap.size, 4, none⟩ = some (.int .i64 x4) ∧ w'.cell? ⟨bp, 0, none⟩ = some (.slice B0 r1.length d0) ∧ w'.cell? ⟨bp, 1, none⟩ = some (.slice B1 r2.length d1) ∧ w'.cell? ⟨bp, 2, none⟩ = some (.slice B2 r3.length d2) ∧ w'.cell? ⟨bp, 3, none⟩ = some (.slice B3 r4.length d3) ∧ w'.cell? ⟨bp, 4, none⟩ = some (.int .i64 r5) ∧ w'.cell? ⟨bq, 0, none⟩ = some (.slice D0 r1.length g0) ∧ w'.cell? ⟨bq, 1, none⟩ = some (.slice D1 r2.length g1) ∧ w'.cell? ⟨bq, 2, none⟩ = some (.slice D2 r3.length g2) ∧ w'.cell? ⟨bq, 3, none⟩ = some (.slice D3 r4.length g3) ∧ w'.cell? ⟨bq, 4, none⟩ = some (.int .i64 r5)) (ds := []) #[false, false, false, false, false, false, false, false, false, false, false, false, false, false, false, false, false, false, false] (by kernel_rfl) rfl rfl ⟨x0, x1, x2_, x3_, x4_, y0, y1, y2, y3, y4, z0, z1, z2, z3, z4⟩ (fun hHeld => ?_)
    refine take_ (i := 0) (N := some 21) (v := ?_) (a' := ?_) #[true, false, false, false, false, false, false, false, false, false, false, false, false, false, false, false, false, false, false] rfl rfl (by kernel_rfl) (fun _ _ _ h => h) (Or.inl ⟨by rfl, ?_⟩) hHeld ?_ ?_
    rotate_left
    · rintro w' ⟨s0, s1, s2, s3, s4, s5, s6, s7, s8, s9, s10, s11, s12, s13, s14⟩
      go_simp
      with_reducible rfl
    rotate_left
    · simp only [Act.put, List.setIfInBounds_toArray, List.set_cons_zero, List.set_cons_succ, i64_w, i32_w]
      rfl
    refine take_ (i := 2) (N := some 23) (v := ?_) (a' := ?_) #[true, false, true, false, false, false, false, false, false, false, false, false, false, false, false, false, false, false, false] rfl rfl (by kernel_rfl) (fun _ _ _ h => h) (Or.inl ⟨by rfl, ?_⟩) hHeld ?_ ?_
    rotate_left
    · rintro w' ⟨s0, s1, s2, s3, s4, s5, s6, s7, s8, s9, s10, s11, s12, s13, s14⟩
      go_simp
      with_reducible rfl
    rotate_left
    · simp only [Act.put, List.setIfInBounds_toArray, List.set_cons_zero, List.set_cons_succ, i64_w, i32_w]
      rfl
    refine one_ (i := 1) (N := some 22) #[true, true, true, false, false, false, false, false, false, false, false, false, false, false, false, false, false, false, false] rfl rfl (by kernel_rfl) (by decide) (fun K hK => ?_)
    refine goes_ Try.func15 (by kernel_rfl) rfl #[.agg #[.slice A0 l0.length c0, .slice A1 l1.length c1, .int .i64 x2, .int .i64 x3, .int .i64 x4]] (by rfl) rfl rfl (by simp only [List.map_toArray, List.map_cons, List.map_nil] <;> rfl) ?_
    with_reducible refine (chk1_run A0 c0 l0 A1 c1 l1 x2 x3 x4 c _ (HR.out _ HM0.out) hc0 hc1 HC1.out).mono ?_
    rintro e v1 ⟨rfl, hbl⟩
    refine ⟨_, rfl, ?_⟩
    have HM1 := Aside0.mk (below_then HM0.out HM0.out.size hbl)
    clear hbl
    refine hK.out _ _ ⟨(blk_cell (blk_below TB.out HM1.out) 0).trans rfl, (blk_cell (blk_below TB.out HM1.out) 1).trans rfl, (blk_cell (blk_below TB.out HM1.out) 2).trans rfl, (blk_cell (blk_below TB.out HM1.out) 3).trans rfl, (blk_cell (blk_below TB.out HM1.out) 4).trans rfl, (blk_cell (blk_below PB.out HM1.out) 0).trans rfl, (blk_cell (blk_below PB.out HM1.out) 1).trans rfl, (blk_cell (blk_below PB.out HM1.out) 2).trans rfl, (blk_cell (blk_below PB.out HM1.out) 3).trans rfl, (blk_cell (blk_below PB.out HM1.out) 4).trans rfl, (blk_cell (blk_below QB.out HM1.out) 0).trans rfl, (blk_cell (blk_below QB.out HM1.out) 1).trans rfl, (blk_cell (blk_below QB.out HM1.out) 2).trans rfl, (blk_cell (blk_below QB.out HM1.out) 3).trans rfl, (blk_cell (blk_below QB.out HM1.out) 4).trans rfl⟩ (fun hHeld => ?_)
    clear hK K
    refine norm_ (a' := ?_) ?_ ?_
    rotate_left
    · show Act.put _ (some 22) _ = _
      simp only [Act.put, List.setIfInBounds_toArray, List.set_cons_zero, List.set_cons_succ, i64_w, i32_w]
      rfl
    refine one_ (i := 3) (N := some 24) #[true, true, true, true, false, false, false, false, false, false, false, false, false, false, false, false, false, false, false] rfl rfl (by kernel_rfl) (by decide) (fun K hK => ?_)
    refine goes_ Try.func16 (by kernel_rfl) rfl #[.agg #[.slice A0 l0.length c0, .slice A1 l1.length c1, .int .i64 x2, .int .i64 x3, .int .i64 x4]] (by rfl) rfl rfl (by simp only [List.map_toArray, List.map_cons, List.map_nil] <;> rfl) ?_
    with_reducible refine (chk2_run A0 c0 l0 A1 c1 l1 x2 x3 x4 c _ (HR.out _ HM1.out) hc0 hc1 HC2.out).mono ?_
    rintro e v2 ⟨rfl, hbl⟩
    refine ⟨_, rfl, ?_⟩
    have HM2 := Aside0.mk (below_then HM1.out HM1.out.size hbl)
    clear hbl
    refine hK.out _ _ ⟨(blk_cell (blk_below TB.out HM2.out) 0).trans rfl, (blk_cell (blk_below TB.out HM2.out) 1).trans rfl, (blk_cell (blk_below TB.out HM2.out) 2).trans rfl, (blk_cell (blk_below TB.out HM2.out) 3).trans rfl, (blk_cell (blk_below TB.out HM2.out) 4).trans rfl, (blk_cell (blk_below PB.out HM2.out) 0).trans rfl, (blk_cell (blk_below PB.out HM2.out) 1).trans rfl, (blk_cell (blk_below PB.out HM2.out) 2).trans rfl, (blk_cell (blk_below PB.out HM2.out) 3).trans rfl, (blk_cell (blk_below PB.out HM2.out) 4).trans rfl, (blk_cell (blk_below QB.out HM2.out) 0).trans rfl, (blk_cell (blk_below QB.out HM2.out) 1).trans rfl, (blk_cell (blk_below QB.out HM2.out) 2).trans rfl, (blk_cell (blk_below QB.out HM2.out) 3).trans rfl, (blk_cell (blk_below QB.out HM2.out) 4).trans rfl⟩ (fun hHeld => ?_)
    clear hK K
    refine norm_ (a' := ?_) ?_ ?_
    rotate_left
    · show Act.put _ (some 24) _ = _
      simp only [Act.put, List.setIfInBounds_toArray, List.set_cons_zero, List.set_cons_succ, i64_w, i32_w]
      rfl
    refine pure_ (i := 4) (N := some 25) (v := ?_) (a' := ?_) #[true, true, true, true, true, false, false, false, false, false, false, false, false, false, false, false, false, false, false] rfl rfl (by kernel_rfl) (fun _ _ _ h => h) (Or.inl ⟨by rfl, ?_⟩) ?_ ?_
    rotate_left
    · intro w'
      go_simp
      with_reducible rfl
    rotate_left
    · simp only [Act.put, List.setIfInBounds_toArray, List.set_cons_zero, List.set_cons_succ, i64_w, i32_w]
      rfl
    refine pure_ (i := 5) (N := some 26) (v := ?_) (a' := ?_) #[true, true, true, true, true, true, false, false, false, false, false, false, false, false, false, false, false, false, false] rfl rfl (by kernel_rfl) (fun _ _ _ h => h) (Or.inl ⟨by rfl, ?_⟩) ?_ ?_
    rotate_left
    · intro w'
      go_simp
      with_reducible rfl
    rotate_left
    · simp only [Act.put, List.setIfInBounds_toArray, List.set_cons_zero, List.set_cons_succ, i64_w, i32_w]
      rfl
    refine take_ (i := 6) (N := some 27) (v := ?_) (a' := ?_) #[true, true, true, true, true, true, true, false, false, false, false, false, false, false, false, false, false, false, false] rfl rfl (by kernel_rfl) (fun _ _ _ h => h) (Or.inl ⟨by rfl, ?_⟩) hHeld ?_ ?_
    rotate_left
    · rintro w' ⟨s0, s1, s2, s3, s4, s5, s6, s7, s8, s9, s10, s11, s12, s13, s14⟩
      go_simp
      with_reducible rfl
    rotate_left
    · simp only [Act.put, List.setIfInBounds_toArray, List.set_cons_zero, List.set_cons_succ, i64_w, i32_w]
      rfl
    refine take_ (i := 7) (N := some 28) (v := ?_) (a' := ?_) #[true, true, true, true, true, true, true, true, false, false, false, false, false, false, false, false, false, false, false] rfl rfl (by kernel_rfl) (fun _ _ _ h => h) (Or.inl ⟨by rfl, ?_⟩) hHeld ?_ ?_
    rotate_left
    · rintro w' ⟨s0, s1, s2, s3, s4, s5, s6, s7, s8, s9, s10, s11, s12, s13, s14⟩
      go_simp
      with_reducible rfl
    rotate_left
    · simp only [Act.put, List.setIfInBounds_toArray, List.set_cons_zero, List.set_cons_succ, i64_w, i32_w]
      rfl
    refine one_ (i := 8) (N := some 29) #[true, true, true, true, true, true, true, true, true, false, false, false, false, false, false, false, false, false, false] rfl rfl (by kernel_rfl) (by decide) (fun K hK => ?_)
    refine goes_ Try.func17 (by kernel_rfl) rfl #[.agg #[.slice B0 r1.length d0, .slice B1 r2.length d1, .slice B2 r3.length d2, .slice B3 r4.length d3, .int .i64 r5], .agg #[.slice D0 r1.length g0, .slice D1 r2.length g1, .slice D2 r3.length g2, .slice D3 r4.length g3, .int .i64 r5]] (by rfl) rfl rfl (by simp only [List.map_toArray, List.map_cons, List.map_nil] <;> rfl) ?_
    with_reducible refine (same_run B0 d0 B1 d1 B2 d2 B3 d3 D0 g0 D1 g1 D2 g2 D3 g3 r1 r2 r3 r4 r5 _ HLN.out HDD.out (HPQ.out _ HM2.out)).mono ?_
    rintro e v3 ⟨rfl, hbl⟩
    refine ⟨_, rfl, ?_⟩
    have HM3 := Aside0.mk (below_then HM2.out HM2.out.size hbl)
    clear hbl
    refine hK.out _ _ ⟨(blk_cell (blk_below TB.out HM3.out) 0).trans rfl, (blk_cell (blk_below TB.out HM3.out) 1).trans rfl, (blk_cell (blk_below TB.out HM3.out) 2).trans rfl, (blk_cell (blk_below TB.out HM3.out) 3).trans rfl, (blk_cell (blk_below TB.out HM3.out) 4).trans rfl, (blk_cell (blk_below PB.out HM3.out) 0).trans rfl, (blk_cell (blk_below PB.out HM3.out) 1).trans rfl, (blk_cell (blk_below PB.out HM3.out) 2).trans rfl, (blk_cell (blk_below PB.out HM3.out) 3).trans rfl, (blk_cell (blk_below PB.out HM3.out) 4).trans rfl, (blk_cell (blk_below QB.out HM3.out) 0).trans rfl, (blk_cell (blk_below QB.out HM3.out) 1).trans rfl, (blk_cell (blk_below QB.out HM3.out) 2).trans rfl, (blk_cell (blk_below QB.out HM3.out) 3).trans rfl, (blk_cell (blk_below QB.out HM3.out) 4).trans rfl⟩ (fun hHeld => ?_)
    clear hK K
    refine norm_ (a' := ?_) ?_ ?_
    rotate_left
    · show Act.put _ (some 29) _ = _
      simp only [Act.put, List.setIfInBounds_toArray, List.set_cons_zero, List.set_cons_succ, i64_w, i32_w]
      rfl
    refine pure_ (i := 9) (N := some 30) (v := ?_) (a' := ?_) #[true, true, true, true, true, true, true, true, true, true, false, false, false, false, false, false, false, false, false] rfl rfl (by kernel_rfl) (fun _ _ _ h => h) (Or.inl ⟨by rfl, ?_⟩) ?_ ?_
    rotate_left
    · intro w'
      go_simp
      with_reducible rfl
    rotate_left
    · simp only [Act.put, List.setIfInBounds_toArray, List.set_cons_zero, List.set_cons_succ, i64_w, i32_w]
      rfl
    refine pure_ (i := 10) (N := some 31) (v := ?_) (a' := ?_) #[true, true, true, true, true, true, true, true, true, true, true, false, false, false, false, false, false, false, false] rfl rfl (by kernel_rfl) (fun _ _ _ h => h) (Or.inl ⟨by rfl, ?_⟩) ?_ ?_
    rotate_left
    · intro w'
      go_simp
      with_reducible rfl
    rotate_left
    · simp only [Act.put, List.setIfInBounds_toArray, List.set_cons_zero, List.set_cons_succ, i64_w, i32_w]
      rfl
    refine pure_ (i := 11) (N := some 32) (v := ?_) (a' := ?_) #[true, true, true, true, true, true, true, true, true, true, true, true, false, false, false, false, false, false, false] rfl rfl (by kernel_rfl) (fun _ _ _ h => h) (Or.inl ⟨by rfl, ?_⟩) ?_ ?_
    rotate_left
    · intro w'
      go_simp
      with_reducible rfl
    rotate_left
    · simp only [Act.put, List.setIfInBounds_toArray, List.set_cons_zero, List.set_cons_succ, i64_w, i32_w]
      rfl
    refine pure_ (i := 12) (N := some 33) (v := ?_) (a' := ?_) #[true, true, true, true, true, true, true, true, true, true, true, true, true, false, false, false, false, false, false] rfl rfl (by kernel_rfl) (fun _ _ _ h => h) (Or.inl ⟨by rfl, ?_⟩) ?_ ?_
    rotate_left
    · intro w'
      go_simp
      with_reducible rfl
    rotate_left
    · simp only [Act.put, List.setIfInBounds_toArray, List.set_cons_zero, List.set_cons_succ, i64_w, i32_w]
      rfl
    refine pure_ (i := 13) (N := some 34) (v := ?_) (a' := ?_) #[true, true, true, true, true, true, true, true, true, true, true, true, true, true, false, false, false, false, false] rfl rfl (by kernel_rfl) (fun _ _ _ h => h) (Or.inl ⟨by rfl, ?_⟩) ?_ ?_
    rotate_left
    · intro w'
      go_simp
      with_reducible rfl
    rotate_left
    · simp only [Act.put, List.setIfInBounds_toArray, List.set_cons_zero, List.set_cons_succ, i64_w, i32_w]
      rfl
    refine pure_ (i := 14) (N := some 35) (v := ?_) (a' := ?_) #[true, true, true, true, true, true, true, true, true, true, true, true, true, true, true, false, false, false, false] rfl rfl (by kernel_rfl) (fun _ _ _ h => h) (Or.inl ⟨by rfl, ?_⟩) ?_ ?_
    rotate_left
    · intro w'
      go_simp
      with_reducible rfl
    rotate_left
    · simp only [Act.put, List.setIfInBounds_toArray, List.set_cons_zero, List.set_cons_succ, i64_w, i32_w]
      rfl
    refine pure_ (i := 15) (N := some 36) (v := ?_) (a' := ?_) #[true, true, true, true, true, true, true, true, true, true, true, true, true, true, true, true, false, false, false] rfl rfl (by kernel_rfl) (fun _ _ _ h => h) (Or.inl ⟨by rfl, ?_⟩) ?_ ?_
    rotate_left
    · intro w'
      go_simp
      with_reducible rfl
    rotate_left
    · simp only [Act.put, List.setIfInBounds_toArray, List.set_cons_zero, List.set_cons_succ, i64_w, i32_w]
      rfl
    refine one_ (i := 16) (N := some 37) #[true, true, true, true, true, true, true, true, true, true, true, true, true, true, true, true, true, false, false] rfl rfl (by kernel_rfl) (by decide) (fun K hK => ?_)
    refine goes_ Try.func12 (by kernel_rfl) rfl #[] (by rfl) rfl rfl (by simp only [List.map_toArray, List.map_cons, List.map_nil] <;> rfl) ?_
    with_reducible refine (awake_at _ HM3.out).mono ?_
    rintro e v4 ⟨rfl, hbl⟩
    refine ⟨_, rfl, ?_⟩
    have HM4 := Aside0.mk (below_then HM3.out HM3.out.size hbl)
    clear hbl
    refine hK.out _ _ ⟨(blk_cell (blk_below TB.out HM4.out) 0).trans rfl, (blk_cell (blk_below TB.out HM4.out) 1).trans rfl, (blk_cell (blk_below TB.out HM4.out) 2).trans rfl, (blk_cell (blk_below TB.out HM4.out) 3).trans rfl, (blk_cell (blk_below TB.out HM4.out) 4).trans rfl, (blk_cell (blk_below PB.out HM4.out) 0).trans rfl, (blk_cell (blk_below PB.out HM4.out) 1).trans rfl, (blk_cell (blk_below PB.out HM4.out) 2).trans rfl, (blk_cell (blk_below PB.out HM4.out) 3).trans rfl, (blk_cell (blk_below PB.out HM4.out) 4).trans rfl, (blk_cell (blk_below QB.out HM4.out) 0).trans rfl, (blk_cell (blk_below QB.out HM4.out) 1).trans rfl, (blk_cell (blk_below QB.out HM4.out) 2).trans rfl, (blk_cell (blk_below QB.out HM4.out) 3).trans rfl, (blk_cell (blk_below QB.out HM4.out) 4).trans rfl⟩ (fun hHeld => ?_)
    clear hK K
    refine norm_ (a' := ?_) ?_ ?_
    rotate_left
    · show Act.put _ (some 37) _ = _
      simp only [Act.put, List.setIfInBounds_toArray, List.set_cons_zero, List.set_cons_succ, i64_w, i32_w]
      rfl
    refine pure_ (i := 17) (N := some 38) (v := ?_) (a' := ?_) #[true, true, true, true, true, true, true, true, true, true, true, true, true, true, true, true, true, true, false] rfl rfl (by kernel_rfl) (fun _ _ _ h => h) (Or.inl ⟨by rfl, ?_⟩) ?_ ?_
    rotate_left
    · intro w'
      go_simp
      with_reducible rfl
    rotate_left
    · simp only [Act.put, List.setIfInBounds_toArray, List.set_cons_zero, List.set_cons_succ, i64_w, i32_w]
      rfl
    refine pure_ (i := 18) (N := some 2) (v := ?_) (a' := ?_) #[true, true, true, true, true, true, true, true, true, true, true, true, true, true, true, true, true, true, true] rfl rfl (by kernel_rfl) (fun _ _ _ h => h) (Or.inl ⟨by rfl, ?_⟩) ?_ ?_
    rotate_left
    · intro w'
      go_simp
      with_reducible rfl
    rotate_left
    · simp only [Act.put, List.setIfInBounds_toArray, List.set_cons_zero, List.set_cons_succ, i64_w, i32_w]
      rfl
    refine done_ (by kernel_rfl) ?_

    clear hHeld x0 x1 x2_ x3_ x4_ y0 y1 y2 y3 y4 z0 z1 z2 z3 z4
    go_wp2
    go_ret
    exact ⟨rfl, below_then HB3.out HB3.out.size HM4.out⟩
end Go.Proofs.Ytcflacjidabppaa.Pr

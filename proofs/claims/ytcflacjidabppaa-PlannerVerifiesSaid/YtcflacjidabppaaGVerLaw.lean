/- The law PlannerVerifies answers true. -/
import Derived.Test.YtcflacjidabppaaGVerV
import Derived.Test.YtcflacjidabppaaGAwake
import Derived.Test.YtcflacjidabppaaF11
import Derived.Test.YtcflacjidabppaaF18
namespace Go.Proofs.Ytcflacjidabppaa.Pr
open Go.RowKit Go.Proofs.YtcflacjidabppaaW.PrintWords Go.Proofs.YtcflacjidabppaaW.PrintLast Go.Proofs.YtcflacjidabppaaW.PrintMore
set_option linter.unusedVariables false
set_option linter.unusedSimpArgs false
attribute [local go_sem] max2_int min2_int max_two min_two max_three min_three max_four min_four

theorem awake_at {ws : World} (w : World) (_ : Below ws.heap.size ws w) : Calls Try.prog 12 #[] w fun e w' => e = .returned (.bool true) ∧ Below w.heap.size w w' := awake_run w
/-- A trace and a plan as they lie in memory. -/
def TPC (w : World) (A0 A1 : Option Addr) (l0 l1 : List Int) (B0 B1 B2 B3 : Option Addr) (p0 p1 p2 p3 : List Int) : Prop := (Kd.C (Kd.int .i64) w A0 l0.length l0 ∧ Kd.C (Kd.int .i64) w A1 l1.length l1) ∧ Kd.C (Kd.int .i64) w B0 p0.length p0 ∧ Kd.C (Kd.int .i64) w B1 p1.length p1 ∧ Kd.C (Kd.int .i64) w B2 p2.length p2 ∧ Kd.C (Kd.int .i64) w B3 p3.length p3
theorem TPC.below {w w1 : World} {A0 A1 : Option Addr} {l0 l1 : List Int} {B0 B1 B2 B3 : Option Addr} {p0 p1 p2 p3 : List Int} (h : TPC w A0 A1 l0 l1 B0 B1 B2 B3 p0 p1 p2 p3) (hb : Below w.heap.size w w1) : TPC w1 A0 A1 l0 l1 B0 B1 B2 B3 p0 p1 p2 p3 :=
  ⟨⟨Kd.C_below h.1.1 hb, Kd.C_below h.1.2 hb⟩, Kd.C_below h.2.1 hb, Kd.C_below h.2.2.1 hb, Kd.C_below h.2.2.2.1 hb, Kd.C_below h.2.2.2.2 hb⟩

theorem ver1_run (A0 : Option Addr) (c0 : Nat) (l0 : List Int) (A1 : Option Addr) (c1 : Nat) (l1 : List Int) (x2 x3 x4 : Int) (B0 : Option Addr) (d0 : Nat) (p0 : List Int) (B1 : Option Addr) (d1 : Nat) (p1 : List Int) (B2 : Option Addr) (d2 : Nat) (p2 : List Int) (B3 : Option Addr) (d3 : Nat) (p3 : List Int) (p4 c : Int) (w : World)
    (h : TPC w A0 A1 l0 l1 B0 B1 B2 B3 p0 p1 p2 p3) (h0 : l0.length ≤ c0) (h1 : l1.length ≤ c1) (hd : p0.length ≤ d0 ∧ p1.length ≤ d1 ∧ p2.length ≤ d2 ∧ p3.length ≤ d3) (hc : planner_Verify.f 50000 l0 l1 x2 x3 x4 p0 p1 p2 p3 p4 = some c) :
    Calls Try.prog 21 #[.agg #[.slice A0 l0.length c0, .slice A1 l1.length c1, .int .i64 x2, .int .i64 x3, .int .i64 x4], .agg #[.slice B0 p0.length d0, .slice B1 p1.length d1, .slice B2 p2.length d2, .slice B3 p3.length d3, .int .i64 p4]] w fun e w' => e = .returned (.int .i64 c) ∧ Below w.heap.size w w' :=
  planner_Verify.calls 50000 A0 c0 l0 A1 c1 l1 x2 x3 x4 B0 d0 p0 B1 d1 p1 B2 d2 p2 B3 d3 p3 p4 c w h.1.1 h0 h.1.2 h1 h.2.1 hd.1 h.2.2.1 hd.2.1 h.2.2.2.1 hd.2.2.1 h.2.2.2.2 hd.2.2.2 hc
theorem ver2_run (A0 : Option Addr) (c0 : Nat) (l0 : List Int) (A1 : Option Addr) (c1 : Nat) (l1 : List Int) (x2 x3 x4 : Int) (B0 : Option Addr) (d0 : Nat) (p0 : List Int) (B1 : Option Addr) (d1 : Nat) (p1 : List Int) (B2 : Option Addr) (d2 : Nat) (p2 : List Int) (B3 : Option Addr) (d3 : Nat) (p3 : List Int) (p4 c : Int) (w : World)
    (h : TPC w A0 A1 l0 l1 B0 B1 B2 B3 p0 p1 p2 p3) (h0 : l0.length ≤ c0) (h1 : l1.length ≤ c1) (hd : p0.length ≤ d0 ∧ p1.length ≤ d1 ∧ p2.length ≤ d2 ∧ p3.length ≤ d3) (hc : standbyref56_Verify.f 50000 l0 l1 x2 x3 x4 p0 p1 p2 p3 p4 = some c) :
    Calls Try.prog 22 #[.agg #[.slice A0 l0.length c0, .slice A1 l1.length c1, .int .i64 x2, .int .i64 x3, .int .i64 x4], .agg #[.slice B0 p0.length d0, .slice B1 p1.length d1, .slice B2 p2.length d2, .slice B3 p3.length d3, .int .i64 p4]] w fun e w' => e = .returned (.int .i64 c) ∧ Below w.heap.size w w' :=
  standbyref56_Verify.calls 50000 A0 c0 l0 A1 c1 l1 x2 x3 x4 B0 d0 p0 B1 d1 p1 B2 d2 p2 B3 d3 p3 p4 c w h.1.1 h0 h.1.2 h1 h.2.1 hd.1 h.2.2.1 hd.2.1 h.2.2.2.1 hd.2.2.1 h.2.2.2.2 hd.2.2.2 hc

set_option maxHeartbeats 4000000 in
set_option maxRecDepth 100000 in
theorem PlannerVerifies_run (A0 : Option Addr) (c0 : Nat) (l0 : List Int) (A1 : Option Addr) (c1 : Nat) (l1 : List Int) (x2 x3 x4 : Int) (B0 : Option Addr) (d0 : Nat) (p0 : List Int) (B1 : Option Addr) (d1 : Nat) (p1 : List Int) (B2 : Option Addr) (d2 : Nat) (p2 : List Int) (B3 : Option Addr) (d3 : Nat) (p3 : List Int) (p4 now : Int) (w : World)
    (htp : TPC w A0 A1 l0 l1 B0 B1 B2 B3 p0 p1 p2 p3) (hc0 : l0.length ≤ c0) (hc1 : l1.length ≤ c1) (hd : p0.length ≤ d0 ∧ p1.length ≤ d1 ∧ p2.length ≤ d2 ∧ p3.length ≤ d3) :
    Calls Try.prog 4 #[.agg #[.slice A0 l0.length c0, .slice A1 l1.length c1, .int .i64 x2, .int .i64 x3, .int .i64 x4], .agg #[.slice B0 p0.length d0, .slice B1 p1.length d1, .slice B2 p2.length d2, .slice B3 p3.length d3, .int .i64 p4], .int .i64 now] w fun e w' => e = .returned (.bool true) ∧ Below w.heap.size w w' := by
  have HR0 : Aside0 (∀ W, Below w.heap.size w W → TPC W A0 A1 l0 l1 B0 B1 B2 B3 p0 p1 p2 p3) := ⟨fun W hW => htp.below hW⟩
  have HD := Aside0.mk hd
  clear htp hd
  have hfew : ∃ b, standbyref56_Few.f l0 l1 x2 x3 x4 = some b ∧ (b = true → l0.length ≤ 40 ∧ l1.length ≤ 60) := by
    unfold standbyref56_Few.f
    by_cases h1 : (l0.length : Int) ≤ 40
    · rw [if_pos h1]
      exact ⟨_, rfl, fun h => by have := of_decide_eq_true h; omega⟩
    · rw [if_neg h1]; exact ⟨_, rfl, fun h => by cases h⟩
  have hfewp : ∃ b, standbylaw56_fewPlan.f p0 p1 p2 p3 p4 = some b ∧ (b = true → p0.length ≤ 50 ∧ p1.length ≤ 50 ∧ p2.length ≤ 50 ∧ p3.length ≤ 50) := by
    unfold standbylaw56_fewPlan.f
    by_cases h1 : (p0.length : Int) ≤ 50
    · rw [if_pos h1]
      by_cases h2 : (p1.length : Int) ≤ 50
      · rw [if_pos h2]
        by_cases h3 : (p2.length : Int) ≤ 50
        · rw [if_pos h3]
          exact ⟨_, rfl, fun h => by have := of_decide_eq_true h; omega⟩
        · rw [if_neg h3]; exact ⟨_, rfl, fun h => by cases h⟩
      · rw [if_neg h2]; exact ⟨_, rfl, fun h => by cases h⟩
    · rw [if_neg h1]; exact ⟨_, rfl, fun h => by cases h⟩
  obtain ⟨b, hb, hfew⟩ := hfew
  obtain ⟨b2, hb2, hfewp⟩ := hfewp
  have HF := Aside0.mk hb
  have HF2 := Aside0.mk hb2
  have HW1 := Aside0.mk hfew
  have HW2 := Aside0.mk hfewp
  clear hfew hfewp
  have h01 : Below w.heap.size w ((w.alloc (.cells #[.slice A0 l0.length c0, .slice A1 l1.length c1, .int .i64 x2, .int .i64 x3, .int .i64 x4] 24)).alloc (.cells #[.slice B0 p0.length d0, .slice B1 p1.length d1, .slice B2 p2.length d2, .slice B3 p3.length d3, .int .i64 p4] 28)) := below_alloc (below_alloc (Below.refl _ _) _) _
  have hk1 : ((w.alloc (.cells #[.slice A0 l0.length c0, .slice A1 l1.length c1, .int .i64 x2, .int .i64 x3, .int .i64 x4] 24)).alloc (.cells #[.slice B0 p0.length d0, .slice B1 p1.length d1, .slice B2 p2.length d2, .slice B3 p3.length d3, .int .i64 p4] 28)).heap[w.heap.size]? = some (.cells #[.slice A0 l0.length c0, .slice A1 l1.length c1, .int .i64 x2, .int .i64 x3, .int .i64 x4] 24 (0, 0)) := blk_alloc (heap_alloc_new w _) _
  have hk2 : ((w.alloc (.cells #[.slice A0 l0.length c0, .slice A1 l1.length c1, .int .i64 x2, .int .i64 x3, .int .i64 x4] 24)).alloc (.cells #[.slice B0 p0.length d0, .slice B1 p1.length d1, .slice B2 p2.length d2, .slice B3 p3.length d3, .int .i64 p4] 28)).heap[w.heap.size + 1]? = some (.cells #[.slice B0 p0.length d0, .slice B1 p1.length d1, .slice B2 p2.length d2, .slice B3 p3.length d3, .int .i64 p4] 28 (0, 0)) := by
    have := heap_alloc_new (w.alloc (.cells #[.slice A0 l0.length c0, .slice A1 l1.length c1, .int .i64 x2, .int .i64 x3, .int .i64 x4] 24)) (.cells #[.slice B0 p0.length d0, .slice B1 p1.length d1, .slice B2 p2.length d2, .slice B3 p3.length d3, .int .i64 p4] 28)
    rw [World.size_alloc] at this
    exact this
  have H01 := Aside0.mk h01
  have HK1 := Aside0.mk hk1
  have HK2 := Aside0.mk hk2
  clear hb hb2 h01 hk1 hk2
  go_enter Try.func4, Try.ntmps4
  go_wp2_with fail
  refine (standbyref56_Few.calls A0 c0 l0 A1 c1 l1 x2 x3 x4 b _ (HR0.out _ H01.out).1.1 hc0 (HR0.out _ H01.out).1.2 hc1 HF.out).mono ?_
  rintro e w1 ⟨rfl, hb⟩
  have HB1 := Aside0.mk (below_then H01.out H01.out.size hb)
  have TB1 := Aside0.mk (blk_below HK1.out hb)
  have PB1 := Aside0.mk (blk_below HK2.out hb)
  clear hb HK1 HK2
  cases b with
  | false =>
    go_wp2_with fail
    refine (awake_run w1).mono ?_
    rintro e w2 ⟨rfl, hb⟩
    have HB2 := Aside0.mk (below_then HB1.out HB1.out.size hb)
    clear hb
    go_wp2
    go_ret
    exact ⟨rfl, HB2.out⟩
  | true =>
    have y0 := (blk_cell PB1.out 0).trans rfl
    have y1 := (blk_cell PB1.out 1).trans rfl
    have y2 := (blk_cell PB1.out 2).trans rfl
    have y3 := (blk_cell PB1.out 3).trans rfl
    have y4 := (blk_cell PB1.out 4).trans rfl
    go_wp2_with fail
    refine (standbylaw56_fewPlan.calls B0 d0 p0 B1 d1 p1 B2 d2 p2 B3 d3 p3 p4 b2 _ (HR0.out _ HB1.out).2.1 HD.out.1 (HR0.out _ HB1.out).2.2.1 HD.out.2.1 (HR0.out _ HB1.out).2.2.2.1 HD.out.2.2.1 (HR0.out _ HB1.out).2.2.2.2 HD.out.2.2.2 HF2.out).mono ?_
    rintro e w2 ⟨rfl, hb⟩
    have HB2 := Aside0.mk (below_then HB1.out HB1.out.size hb)
    have TB2 := Aside0.mk (blk_below TB1.out hb)
    have PB2 := Aside0.mk (blk_below PB1.out hb)
    clear hb y0 y1 y2 y3 y4
    cases b2 with
    | false =>
      go_wp2_with fail
      refine (awake_run w2).mono ?_
      rintro e w3 ⟨rfl, hb⟩
      have HB3 := Aside0.mk (below_then HB2.out HB2.out.size hb)
      clear hb
      go_wp2
      go_ret
      exact ⟨rfl, HB3.out⟩
    | true =>
      obtain ⟨hW, hC⟩ := HW1.out (by simp)
      have hq := HW2.out (by simp)
      obtain ⟨c, hcv⟩ : ∃ c, verV l0 l1 x2 x3 x4 p0 p1 p2 p3 p4 = c := ⟨_, rfl⟩
      obtain ⟨⟨r1, r2⟩, hav⟩ : ∃ v, ageV p0 p3 now c = v := ⟨_, rfl⟩
      have HV1 := Aside0.mk ((planVerify_f l0 l1 x2 x3 x4 p0 p1 p2 p3 p4 50000 (by omega)).trans (congrArg some hcv))
      have HV2 := Aside0.mk ((refVerify_f l0 l1 x2 x3 x4 p0 p1 p2 p3 p4 50000 (by omega) (by omega) (by omega) (by omega)).trans (congrArg some hcv))
      have HA1 := planAge_f l0 l1 x2 x3 x4 p0 p1 p2 p3 p4 now 50000 (by omega) (by omega)
      have HA2 := refAge_f l0 l1 x2 x3 x4 p0 p1 p2 p3 p4 now 50000 (by omega) (by omega) (by omega) (by omega)
      rw [hcv, hav] at HA1 HA2
      have HA1 := Aside0.mk HA1
      have HA2 := Aside0.mk HA2
      clear hW hC hq hcv hav
      have e1 : (c == c) = true := by simp
      have e2 : (r1 == r1) = true := by simp
      have e3 : (r2 == r2) = true := by simp
      have t0 := (blk_cell TB2.out 0).trans rfl
      have t1 := (blk_cell TB2.out 1).trans rfl
      have t2 := (blk_cell TB2.out 2).trans rfl
      have t3 := (blk_cell TB2.out 3).trans rfl
      have t4 := (blk_cell TB2.out 4).trans rfl
      have y0 := (blk_cell PB2.out 0).trans rfl
      have y1 := (blk_cell PB2.out 1).trans rfl
      have y2 := (blk_cell PB2.out 2).trans rfl
      have y3 := (blk_cell PB2.out 3).trans rfl
      have y4 := (blk_cell PB2.out 4).trans rfl
      go_wp2_with fail
      refine (planner_Age.calls 50000 A0 c0 l0 A1 c1 l1 x2 x3 x4 B0 d0 p0 B1 d1 p1 B2 d2 p2 B3 d3 p3 p4 now r1 r2 _ (HR0.out _ HB2.out).1.1 hc0 (HR0.out _ HB2.out).1.2 hc1 (HR0.out _ HB2.out).2.1 HD.out.1 (HR0.out _ HB2.out).2.2.1 HD.out.2.1 (HR0.out _ HB2.out).2.2.2.1 HD.out.2.2.1 (HR0.out _ HB2.out).2.2.2.2 HD.out.2.2.2 HA1.out).mono ?_
      rintro e w3 ⟨rfl, hb⟩
      have HB3 := Aside0.mk (below_then HB2.out HB2.out.size hb)
      have TB3 := Aside0.mk (blk_below TB2.out hb)
      have PB3 := Aside0.mk (blk_below PB2.out hb)
      clear hb t0 t1 t2 t3 t4 y0 y1 y2 y3 y4
      have t0 := (blk_cell TB3.out 0).trans rfl
      have t1 := (blk_cell TB3.out 1).trans rfl
      have t2 := (blk_cell TB3.out 2).trans rfl
      have t3 := (blk_cell TB3.out 3).trans rfl
      have t4 := (blk_cell TB3.out 4).trans rfl
      have y0 := (blk_cell PB3.out 0).trans rfl
      have y1 := (blk_cell PB3.out 1).trans rfl
      have y2 := (blk_cell PB3.out 2).trans rfl
      have y3 := (blk_cell PB3.out 3).trans rfl
      have y4 := (blk_cell PB3.out 4).trans rfl
      go_wp2_with fail
      refine (standbyref56_Age.calls 50000 A0 c0 l0 A1 c1 l1 x2 x3 x4 B0 d0 p0 B1 d1 p1 B2 d2 p2 B3 d3 p3 p4 now r1 r2 _ (HR0.out _ HB3.out).1.1 hc0 (HR0.out _ HB3.out).1.2 hc1 (HR0.out _ HB3.out).2.1 HD.out.1 (HR0.out _ HB3.out).2.2.1 HD.out.2.1 (HR0.out _ HB3.out).2.2.2.1 HD.out.2.2.1 (HR0.out _ HB3.out).2.2.2.2 HD.out.2.2.2 HA2.out).mono ?_
      rintro e w4 ⟨rfl, hb⟩
      have HB4 := Aside0.mk (below_then HB3.out HB3.out.size hb)
      have TB := Aside0.mk (blk_below TB3.out hb)
      have PB := Aside0.mk (blk_below PB3.out hb)
      clear hb t0 t1 t2 t3 t4 y0 y1 y2 y3 y4
      go_upto_region 5 with (fail)
      have HR : Aside0 (∀ W, Below w4.heap.size w4 W → TPC W A0 A1 l0 l1 B0 B1 B2 B3 p0 p1 p2 p3) := ⟨fun W hW => HR0.out W (below_then HB4.out HB4.out.size hW)⟩
      have HM0 := Aside0.mk (below_drew (Below.refl w4.heap.size w4))
      have y0 := (blk_cell TB.out 0).trans rfl
      have y1 := (blk_cell TB.out 1).trans rfl
      have y2 := (blk_cell TB.out 2).trans rfl
      have y3 := (blk_cell TB.out 3).trans rfl
      have y4 := (blk_cell TB.out 4).trans rfl
      have z0 := (blk_cell PB.out 0).trans rfl
      have z1 := (blk_cell PB.out 1).trans rfl
      have z2 := (blk_cell PB.out 2).trans rfl
      have z3 := (blk_cell PB.out 3).trans rfl
      have z4 := (blk_cell PB.out 4).trans rfl
      refine start_ (n := 21) (S := fun w' => w'.cell? ⟨w.heap.size, 0, none⟩ = some (.slice A0 l0.length c0) ∧ w'.cell? ⟨w.heap.size, 1, none⟩ = some (.slice A1 l1.length c1) ∧ w'.cell? ⟨w.heap.size, 2, none⟩ = some (.int .i64 x2) ∧ w'.cell? ⟨w.heap.size, 3, none⟩ = some (.int .i64 x3) ∧ w'.cell? ⟨w.heap.size, 4, none⟩ = some (.int .i64 x4) ∧ w'.cell? ⟨w.heap.size + 1, 0, none⟩ = some (.slice B0 p0.length d0) ∧ w'.cell? ⟨w.heap.size + 1, 1, none⟩ = some (.slice B1 p1.length d1) ∧ w'.cell? ⟨w.heap.size + 1, 2, none⟩ = some (.slice B2 p2.length d2) ∧ w'.cell? ⟨w.heap.size + 1, 3, none⟩ = some (.slice B3 p3.length d3) ∧ w'.cell? ⟨w.heap.size + 1, 4, none⟩ = some (.int .i64 p4)) (ds := []) #[false, false, false, false, false, false, false, false, false, false, false, false, false, false, false, false, false, false, false, false, false] (by kernel_rfl) rfl rfl ⟨y0, y1, y2, y3, y4, z0, z1, z2, z3, z4⟩ (fun hHeld => ?_)
      refine take_ (i := 0) (N := some 34) (v := ?_) (a' := ?_) #[true, false, false, false, false, false, false, false, false, false, false, false, false, false, false, false, false, false, false, false, false] rfl rfl (by kernel_rfl) (fun _ _ _ h => h) (Or.inl ⟨by rfl, ?_⟩) hHeld ?_ ?_
      rotate_left
      · rintro w' ⟨s0, s1, s2, s3, s4, s5, s6, s7, s8, s9⟩
        go_simp
        with_reducible rfl
      rotate_left
      · simp only [Act.put, List.setIfInBounds_toArray, List.set_cons_zero, List.set_cons_succ, i64_w, i32_w]
        rfl
      refine take_ (i := 1) (N := some 35) (v := ?_) (a' := ?_) #[true, true, false, false, false, false, false, false, false, false, false, false, false, false, false, false, false, false, false, false, false] rfl rfl (by kernel_rfl) (fun _ _ _ h => h) (Or.inl ⟨by rfl, ?_⟩) hHeld ?_ ?_
      rotate_left
      · rintro w' ⟨s0, s1, s2, s3, s4, s5, s6, s7, s8, s9⟩
        go_simp
        with_reducible rfl
      rotate_left
      · simp only [Act.put, List.setIfInBounds_toArray, List.set_cons_zero, List.set_cons_succ, i64_w, i32_w]
        rfl
      refine take_ (i := 3) (N := some 37) (v := ?_) (a' := ?_) #[true, true, false, true, false, false, false, false, false, false, false, false, false, false, false, false, false, false, false, false, false] rfl rfl (by kernel_rfl) (fun _ _ _ h => h) (Or.inl ⟨by rfl, ?_⟩) hHeld ?_ ?_
      rotate_left
      · rintro w' ⟨s0, s1, s2, s3, s4, s5, s6, s7, s8, s9⟩
        go_simp
        with_reducible rfl
      rotate_left
      · simp only [Act.put, List.setIfInBounds_toArray, List.set_cons_zero, List.set_cons_succ, i64_w, i32_w]
        rfl
      refine take_ (i := 4) (N := some 38) (v := ?_) (a' := ?_) #[true, true, false, true, true, false, false, false, false, false, false, false, false, false, false, false, false, false, false, false, false] rfl rfl (by kernel_rfl) (fun _ _ _ h => h) (Or.inl ⟨by rfl, ?_⟩) hHeld ?_ ?_
      rotate_left
      · rintro w' ⟨s0, s1, s2, s3, s4, s5, s6, s7, s8, s9⟩
        go_simp
        with_reducible rfl
      rotate_left
      · simp only [Act.put, List.setIfInBounds_toArray, List.set_cons_zero, List.set_cons_succ, i64_w, i32_w]
        rfl
      refine one_ (i := 2) (N := some 36) #[true, true, true, true, true, false, false, false, false, false, false, false, false, false, false, false, false, false, false, false, false] rfl rfl (by kernel_rfl) (by decide) (fun K hK => ?_)
      refine goes_ Try.func21 (by kernel_rfl) rfl #[.agg #[.slice A0 l0.length c0, .slice A1 l1.length c1, .int .i64 x2, .int .i64 x3, .int .i64 x4], .agg #[.slice B0 p0.length d0, .slice B1 p1.length d1, .slice B2 p2.length d2, .slice B3 p3.length d3, .int .i64 p4]] (by rfl) rfl rfl (by simp only [List.map_toArray, List.map_cons, List.map_nil] <;> rfl) ?_
      with_reducible refine (ver1_run A0 c0 l0 A1 c1 l1 x2 x3 x4 B0 d0 p0 B1 d1 p1 B2 d2 p2 B3 d3 p3 p4 c _ (HR.out _ HM0.out) hc0 hc1 HD.out HV1.out).mono ?_
      rintro e v1 ⟨rfl, hbl⟩
      refine ⟨_, rfl, ?_⟩
      have HM1 := Aside0.mk (below_then HM0.out HM0.out.size hbl)
      clear hbl
      refine hK.out _ _ ⟨(blk_cell (blk_below TB.out HM1.out) 0).trans rfl, (blk_cell (blk_below TB.out HM1.out) 1).trans rfl, (blk_cell (blk_below TB.out HM1.out) 2).trans rfl, (blk_cell (blk_below TB.out HM1.out) 3).trans rfl, (blk_cell (blk_below TB.out HM1.out) 4).trans rfl, (blk_cell (blk_below PB.out HM1.out) 0).trans rfl, (blk_cell (blk_below PB.out HM1.out) 1).trans rfl, (blk_cell (blk_below PB.out HM1.out) 2).trans rfl, (blk_cell (blk_below PB.out HM1.out) 3).trans rfl, (blk_cell (blk_below PB.out HM1.out) 4).trans rfl⟩ (fun hHeld => ?_)
      clear hK K
      refine norm_ (a' := ?_) ?_ ?_
      rotate_left
      · show Act.put _ (some 36) _ = _
        simp only [Act.put, List.setIfInBounds_toArray, List.set_cons_zero, List.set_cons_succ, i64_w, i32_w]
        rfl
      refine one_ (i := 5) (N := some 39) #[true, true, true, true, true, true, false, false, false, false, false, false, false, false, false, false, false, false, false, false, false] rfl rfl (by kernel_rfl) (by decide) (fun K hK => ?_)
      refine goes_ Try.func22 (by kernel_rfl) rfl #[.agg #[.slice A0 l0.length c0, .slice A1 l1.length c1, .int .i64 x2, .int .i64 x3, .int .i64 x4], .agg #[.slice B0 p0.length d0, .slice B1 p1.length d1, .slice B2 p2.length d2, .slice B3 p3.length d3, .int .i64 p4]] (by rfl) rfl rfl (by simp only [List.map_toArray, List.map_cons, List.map_nil] <;> rfl) ?_
      with_reducible refine (ver2_run A0 c0 l0 A1 c1 l1 x2 x3 x4 B0 d0 p0 B1 d1 p1 B2 d2 p2 B3 d3 p3 p4 c _ (HR.out _ HM1.out) hc0 hc1 HD.out HV2.out).mono ?_
      rintro e v2 ⟨rfl, hbl⟩
      refine ⟨_, rfl, ?_⟩
      have HM2 := Aside0.mk (below_then HM1.out HM1.out.size hbl)
      clear hbl
      refine hK.out _ _ ⟨(blk_cell (blk_below TB.out HM2.out) 0).trans rfl, (blk_cell (blk_below TB.out HM2.out) 1).trans rfl, (blk_cell (blk_below TB.out HM2.out) 2).trans rfl, (blk_cell (blk_below TB.out HM2.out) 3).trans rfl, (blk_cell (blk_below TB.out HM2.out) 4).trans rfl, (blk_cell (blk_below PB.out HM2.out) 0).trans rfl, (blk_cell (blk_below PB.out HM2.out) 1).trans rfl, (blk_cell (blk_below PB.out HM2.out) 2).trans rfl, (blk_cell (blk_below PB.out HM2.out) 3).trans rfl, (blk_cell (blk_below PB.out HM2.out) 4).trans rfl⟩ (fun hHeld => ?_)
      clear hK K
      refine norm_ (a' := ?_) ?_ ?_
      rotate_left
      · show Act.put _ (some 39) _ = _
        simp only [Act.put, List.setIfInBounds_toArray, List.set_cons_zero, List.set_cons_succ, i64_w, i32_w]
        rfl
      refine pure_ (i := 6) (N := some 40) (v := ?_) (a' := ?_) #[true, true, true, true, true, true, true, false, false, false, false, false, false, false, false, false, false, false, false, false, false] rfl rfl (by kernel_rfl) (fun _ _ _ h => h) (Or.inl ⟨by rfl, ?_⟩) ?_ ?_
      rotate_left
      · intro w'
        go_simp
        with_reducible rfl
      rotate_left
      · simp only [Act.put, List.setIfInBounds_toArray, List.set_cons_zero, List.set_cons_succ, i64_w, i32_w]
        rfl
      refine pure_ (i := 7) (N := some 41) (v := ?_) (a' := ?_) #[true, true, true, true, true, true, true, true, false, false, false, false, false, false, false, false, false, false, false, false, false] rfl rfl (by kernel_rfl) (fun _ _ _ h => h) (Or.inl ⟨by rfl, ?_⟩) ?_ ?_
      rotate_left
      · intro w'
        go_simp
        with_reducible rfl
      rotate_left
      · simp only [Act.put, List.setIfInBounds_toArray, List.set_cons_zero, List.set_cons_succ, i64_w, i32_w]
        rfl
      refine pure_ (i := 8) (N := some 42) (v := ?_) (a' := ?_) #[true, true, true, true, true, true, true, true, true, false, false, false, false, false, false, false, false, false, false, false, false] rfl rfl (by kernel_rfl) (fun _ _ _ h => h) (Or.inl ⟨by rfl, ?_⟩) ?_ ?_
      rotate_left
      · intro w'
        go_simp
        with_reducible rfl
      rotate_left
      · simp only [Act.put, List.setIfInBounds_toArray, List.set_cons_zero, List.set_cons_succ, i64_w, i32_w]
        rfl
      refine pure_ (i := 9) (N := some 43) (v := ?_) (a' := ?_) #[true, true, true, true, true, true, true, true, true, true, false, false, false, false, false, false, false, false, false, false, false] rfl rfl (by kernel_rfl) (fun _ _ _ h => h) (Or.inl ⟨by rfl, ?_⟩) ?_ ?_
      rotate_left
      · intro w'
        go_simp
        with_reducible rfl
      rotate_left
      · simp only [Act.put, List.setIfInBounds_toArray, List.set_cons_zero, List.set_cons_succ, i64_w, i32_w]
        rfl
      refine pure_ (i := 10) (N := some 44) (v := ?_) (a' := ?_) #[true, true, true, true, true, true, true, true, true, true, true, false, false, false, false, false, false, false, false, false, false] rfl rfl (by kernel_rfl) (fun _ _ _ h => h) (Or.inl ⟨by rfl, ?_⟩) ?_ ?_
      rotate_left
      · intro w'
        go_simp
        with_reducible rfl
      rotate_left
      · simp only [Act.put, List.setIfInBounds_toArray, List.set_cons_zero, List.set_cons_succ, i64_w, i32_w]
        rfl
      refine pure_ (i := 11) (N := some 45) (v := ?_) (a' := ?_) #[true, true, true, true, true, true, true, true, true, true, true, true, false, false, false, false, false, false, false, false, false] rfl rfl (by kernel_rfl) (fun _ _ _ h => h) (Or.inl ⟨by rfl, ?_⟩) ?_ ?_
      rotate_left
      · intro w'
        go_simp
        with_reducible rfl
      rotate_left
      · simp only [Act.put, List.setIfInBounds_toArray, List.set_cons_zero, List.set_cons_succ, i64_w, i32_w]
        rfl
      refine pure_ (i := 12) (N := some 46) (v := ?_) (a' := ?_) #[true, true, true, true, true, true, true, true, true, true, true, true, true, false, false, false, false, false, false, false, false] rfl rfl (by kernel_rfl) (fun _ _ _ h => h) (Or.inl ⟨by rfl, ?_⟩) ?_ ?_
      rotate_left
      · intro w'
        go_simp
        with_reducible rfl
      rotate_left
      · simp only [Act.put, List.setIfInBounds_toArray, List.set_cons_zero, List.set_cons_succ, i64_w, i32_w]
        rfl
      refine pure_ (i := 13) (N := some 47) (v := ?_) (a' := ?_) #[true, true, true, true, true, true, true, true, true, true, true, true, true, true, false, false, false, false, false, false, false] rfl rfl (by kernel_rfl) (fun _ _ _ h => h) (Or.inl ⟨by rfl, ?_⟩) ?_ ?_
      rotate_left
      · intro w'
        go_simp
        with_reducible rfl
      rotate_left
      · simp only [Act.put, List.setIfInBounds_toArray, List.set_cons_zero, List.set_cons_succ, i64_w, i32_w]
        rfl
      refine pure_ (i := 14) (N := some 48) (v := ?_) (a' := ?_) #[true, true, true, true, true, true, true, true, true, true, true, true, true, true, true, false, false, false, false, false, false] rfl rfl (by kernel_rfl) (fun _ _ _ h => h) (Or.inl ⟨by rfl, ?_⟩) ?_ ?_
      rotate_left
      · intro w'
        go_simp
        with_reducible rfl
      rotate_left
      · simp only [Act.put, List.setIfInBounds_toArray, List.set_cons_zero, List.set_cons_succ, i64_w, i32_w]
        rfl
      refine pure_ (i := 15) (N := some 49) (v := ?_) (a' := ?_) #[true, true, true, true, true, true, true, true, true, true, true, true, true, true, true, true, false, false, false, false, false] rfl rfl (by kernel_rfl) (fun _ _ _ h => h) (Or.inl ⟨by rfl, ?_⟩) ?_ ?_
      rotate_left
      · intro w'
        go_simp
        with_reducible rfl
      rotate_left
      · simp only [Act.put, List.setIfInBounds_toArray, List.set_cons_zero, List.set_cons_succ, i64_w, i32_w]
        rfl
      refine pure_ (i := 16) (N := some 50) (v := ?_) (a' := ?_) #[true, true, true, true, true, true, true, true, true, true, true, true, true, true, true, true, true, false, false, false, false] rfl rfl (by kernel_rfl) (fun _ _ _ h => h) (Or.inl ⟨by rfl, ?_⟩) ?_ ?_
      rotate_left
      · intro w'
        go_simp
        with_reducible rfl
      rotate_left
      · simp only [Act.put, List.setIfInBounds_toArray, List.set_cons_zero, List.set_cons_succ, i64_w, i32_w]
        rfl
      refine pure_ (i := 17) (N := some 51) (v := ?_) (a' := ?_) #[true, true, true, true, true, true, true, true, true, true, true, true, true, true, true, true, true, true, false, false, false] rfl rfl (by kernel_rfl) (fun _ _ _ h => h) (Or.inl ⟨by rfl, ?_⟩) ?_ ?_
      rotate_left
      · intro w'
        go_simp
        with_reducible rfl
      rotate_left
      · simp only [Act.put, List.setIfInBounds_toArray, List.set_cons_zero, List.set_cons_succ, i64_w, i32_w]
        rfl
      refine one_ (i := 18) (N := some 52) #[true, true, true, true, true, true, true, true, true, true, true, true, true, true, true, true, true, true, true, false, false] rfl rfl (by kernel_rfl) (by decide) (fun K hK => ?_)
      refine goes_ Try.func12 (by kernel_rfl) rfl #[] (by rfl) rfl rfl (by simp only [List.map_toArray, List.map_cons, List.map_nil] <;> rfl) ?_
      with_reducible refine (awake_at _ HM2.out).mono ?_
      rintro e v3 ⟨rfl, hbl⟩
      refine ⟨_, rfl, ?_⟩
      have HM3 := Aside0.mk (below_then HM2.out HM2.out.size hbl)
      clear hbl
      refine hK.out _ _ ⟨(blk_cell (blk_below TB.out HM3.out) 0).trans rfl, (blk_cell (blk_below TB.out HM3.out) 1).trans rfl, (blk_cell (blk_below TB.out HM3.out) 2).trans rfl, (blk_cell (blk_below TB.out HM3.out) 3).trans rfl, (blk_cell (blk_below TB.out HM3.out) 4).trans rfl, (blk_cell (blk_below PB.out HM3.out) 0).trans rfl, (blk_cell (blk_below PB.out HM3.out) 1).trans rfl, (blk_cell (blk_below PB.out HM3.out) 2).trans rfl, (blk_cell (blk_below PB.out HM3.out) 3).trans rfl, (blk_cell (blk_below PB.out HM3.out) 4).trans rfl⟩ (fun hHeld => ?_)
      clear hK K
      refine norm_ (a' := ?_) ?_ ?_
      rotate_left
      · show Act.put _ (some 52) _ = _
        simp only [Act.put, List.setIfInBounds_toArray, List.set_cons_zero, List.set_cons_succ, i64_w, i32_w]
        rfl
      refine pure_ (i := 19) (N := some 53) (v := ?_) (a' := ?_) #[true, true, true, true, true, true, true, true, true, true, true, true, true, true, true, true, true, true, true, true, false] rfl rfl (by kernel_rfl) (fun _ _ _ h => h) (Or.inl ⟨by rfl, ?_⟩) ?_ ?_
      rotate_left
      · intro w'
        go_simp
        with_reducible rfl
      rotate_left
      · simp only [Act.put, List.setIfInBounds_toArray, List.set_cons_zero, List.set_cons_succ, i64_w, i32_w]
        rfl
      refine pure_ (i := 20) (N := some 6) (v := ?_) (a' := ?_) #[true, true, true, true, true, true, true, true, true, true, true, true, true, true, true, true, true, true, true, true, true] rfl rfl (by kernel_rfl) (fun _ _ _ h => h) (Or.inl ⟨by rfl, ?_⟩) ?_ ?_
      rotate_left
      · intro w'
        go_simp
        with_reducible rfl
      rotate_left
      · simp only [Act.put, List.setIfInBounds_toArray, List.set_cons_zero, List.set_cons_succ, i64_w, i32_w]
        rfl
      refine done_ (by kernel_rfl) ?_

      clear hHeld y0 y1 y2 y3 y4 z0 z1 z2 z3 z4
      go_wp2
      go_ret
      exact ⟨rfl, below_then HB4.out HB4.out.size HM3.out⟩
end Go.Proofs.Ytcflacjidabppaa.Pr

/- awake of standbylaw56 answers true. -/
import Derived.Test.YtcflacjidabppaaGRate
import Derived.Test.YtcflacjidabppaaGAge
import Derived.Test.YtcflacjidabppaaGAwakeF
import Derived.Test.YtcflacjidabppaaF17
import Derived.Test.YtcflacjidabppaaF34
namespace Go.Proofs.Ytcflacjidabppaa.Pr
open Go.RowKit Go.Proofs.YtcflacjidabppaaW.PrintWords Go.Proofs.YtcflacjidabppaaW.PrintLast Go.Proofs.YtcflacjidabppaaW.PrintMore
set_option linter.unusedVariables false
set_option linter.unusedSimpArgs false
attribute [local go_sem] max2_int min2_int max_two min_two max_three min_three max_four min_four

set_option maxRecDepth 100000 in
theorem AW1 : planner_Plan.f 40 [4, 0, 2, 2] [2] 2 1 1 = some ([2, 4], [2, 4], [4, 6], [6, 8], 5, 0) := by decide +kernel
set_option maxRecDepth 100000 in
theorem AW2 : planner_Plan.f 40 [4, 0, 2, 2] [1] 2 1 1 = some ([2, 4], [2, 6], [6, 10], [8, 12], 9, 0) := by decide +kernel
set_option maxRecDepth 100000 in
theorem AW3 : planner_Plan.f 40 [4, 0, 2, 2] [2, 0] 4 1 1 = some ([], [], [], [], 0, 21) := by decide +kernel
set_option maxRecDepth 100000 in
theorem AW4 : planner_Rate.f 40 [4, 0, 2, 2] [9] 2 1 1 5 = some (2, 0) := by decide +kernel
set_option maxRecDepth 100000 in
theorem AW5 : planner_Rate.f 40 [4, 0, 2, 2] [9] 2 1 1 3 = some (0, 21) := by decide +kernel
set_option maxRecDepth 100000 in
theorem AW6 : planner_Verify.f 40 [4, 0, 2, 2] [2] 2 1 1 [2, 4] [2, 4] [4, 6] [6, 8] 5 = some 0 := by decide +kernel
set_option maxRecDepth 100000 in
theorem AW7 : planner_Verify.f 40 [4, 0, 2, 2] [1] 2 1 1 [2, 4] [2, 4] [4, 6] [6, 8] 5 = some 22 := by decide +kernel
set_option maxRecDepth 100000 in
theorem AW8 : ∀ i : Fin 10, planner_Age.f 40 [4, 0, 2, 2] [2] 2 1 1 [2, 4] [2, 4] [4, 6] [6, 8] 5 (i.val : Int) = some (rd [0, 1, 2, 3, 4, 5, 4, 5, 4, 5] (i.val : Int), 0) := by decide +kernel
set_option maxRecDepth 100000 in
theorem AW9 : standbyref56_Same.f 40 [2, 4] [2, 4] [4, 6] [6, 8] 5 [2, 4] [2, 4] [4, 6] [6, 8] 5 = some true := by decide +kernel
set_option maxRecDepth 100000 in
theorem AW10 : slices_Equal_int_int.f 40 [8, 12] [8, 12] = some true := by decide +kernel

theorem litR (W : World) (xs : List Int) (e : TypeId) (h : xs.length ≤ 9223372036854775807) : Kd.R (Kd.int .i64) e (W.alloc (.cells (nums .i64 xs).toArray e)) W.heap.size (fun _ => True) (.slice (some ⟨W.heap.size, 0, none⟩) xs.length xs.length) xs :=
  Kd.R_of_own (h1 := fun _ => rfl) (xs := xs) (own_lit W W.heap.size e .i64 xs (Nat.le_refl _) h) (fun _ _ => trivial)
theorem litR1 (W : World) (x : Int) (e : TypeId) : Kd.R (Kd.int .i64) e (W.alloc (.cells #[.int .i64 x] e)) W.heap.size (fun _ => True) (.slice (some ⟨W.heap.size, 0, none⟩) 1 1) [x] := litR W [x] e (by simp)
theorem litR2 (W : World) (x y : Int) (e : TypeId) : Kd.R (Kd.int .i64) e (W.alloc (.cells #[.int .i64 x, .int .i64 y] e)) W.heap.size (fun _ => True) (.slice (some ⟨W.heap.size, 0, none⟩) 2 2) [x, y] := litR W [x, y] e (by simp)

theorem litC2 (W : World) (x y : Int) (e : TypeId) : Kd.C (Kd.int .i64) (W.alloc (.cells #[.int .i64 x, .int .i64 y] e)) (some ⟨W.heap.size, 0, none⟩) 2 [x, y] := (Kd.R_reads' (litR2 W x y e)).2.2
theorem want_at {W W5 : World} (h : (((((W.alloc (.cells #[.int .i64 2, .int .i64 4] 3)).alloc (.cells #[.int .i64 2, .int .i64 4] 3)).alloc (.cells #[.int .i64 4, .int .i64 6] 3)).alloc (.cells #[.int .i64 6, .int .i64 8] 3)).alloc
      (.cells #[.slice (some ⟨W.heap.size, 0, none⟩) 2 2, .slice (some ⟨W.heap.size + 1, 0, none⟩) 2 2, .slice (some ⟨W.heap.size + 1 + 1, 0, none⟩) 2 2, .slice (some ⟨W.heap.size + 1 + 1 + 1, 0, none⟩) 2 2, .int .i64 5] 28)) = W5) :
    W5.heap[W.heap.size + 1 + 1 + 1 + 1]? = some (.cells #[.slice (some ⟨W.heap.size, 0, none⟩) 2 2, .slice (some ⟨W.heap.size + 1, 0, none⟩) 2 2, .slice (some ⟨W.heap.size + 1 + 1, 0, none⟩) 2 2, .slice (some ⟨W.heap.size + 1 + 1 + 1, 0, none⟩) 2 2, .int .i64 5] 28 (0, 0)) ∧
    Kd.C (Kd.int .i64) W5 (some ⟨W.heap.size, 0, none⟩) 2 [2, 4] ∧ Kd.C (Kd.int .i64) W5 (some ⟨W.heap.size + 1, 0, none⟩) 2 [2, 4] ∧ Kd.C (Kd.int .i64) W5 (some ⟨W.heap.size + 1 + 1, 0, none⟩) 2 [4, 6] ∧ Kd.C (Kd.int .i64) W5 (some ⟨W.heap.size + 1 + 1 + 1, 0, none⟩) 2 [6, 8] ∧ Below W.heap.size W W5 := by
  subst h
  refine ⟨?_, ?_, ?_, ?_, ?_, ?_⟩
  · have := heap_alloc_new ((((W.alloc (.cells #[.int .i64 2, .int .i64 4] 3)).alloc (.cells #[.int .i64 2, .int .i64 4] 3)).alloc (.cells #[.int .i64 4, .int .i64 6] 3)).alloc (.cells #[.int .i64 6, .int .i64 8] 3)) (.cells #[.slice (some ⟨W.heap.size, 0, none⟩) 2 2, .slice (some ⟨W.heap.size + 1, 0, none⟩) 2 2, .slice (some ⟨W.heap.size + 1 + 1, 0, none⟩) 2 2, .slice (some ⟨W.heap.size + 1 + 1 + 1, 0, none⟩) 2 2, .int .i64 5] 28)
    rw [World.size_alloc, World.size_alloc, World.size_alloc, World.size_alloc] at this
    exact this
  · exact Kd.C_alloc (Kd.C_alloc (Kd.C_alloc (Kd.C_alloc (litC2 W 2 4 _) _) _) _) _
  · have := litC2 (W.alloc (.cells #[.int .i64 2, .int .i64 4] 3)) 2 4 3
    rw [World.size_alloc] at this
    exact Kd.C_alloc (Kd.C_alloc (Kd.C_alloc this _) _) _
  · have := litC2 ((W.alloc (.cells #[.int .i64 2, .int .i64 4] 3)).alloc (.cells #[.int .i64 2, .int .i64 4] 3)) 4 6 3
    rw [World.size_alloc, World.size_alloc] at this
    exact Kd.C_alloc (Kd.C_alloc this _) _
  · have := litC2 (((W.alloc (.cells #[.int .i64 2, .int .i64 4] 3)).alloc (.cells #[.int .i64 2, .int .i64 4] 3)).alloc (.cells #[.int .i64 4, .int .i64 6] 3)) 6 8 3
    rw [World.size_alloc, World.size_alloc, World.size_alloc] at this
    exact Kd.C_alloc this _
  · exact below_alloc (below_alloc (below_alloc (below_alloc (below_alloc (Below.refl _ _) _) _) _) _) _

theorem exG (v : Value) (l : List Int) (n : Nat) (hn : l.length = n) (w0 w : World) (hB : Below w0.heap.size w0 w) (ho : Kd.R (Kd.int .i64) 3 w w0.heap.size (fun _ => True) v l) :
    Calls Try.prog 34 #[v] w fun e w' => ∃ A0 c0 A1 c1, e = .returned (.agg #[.slice A0 4 c0, .slice A1 n c1, .int .i64 2, .int .i64 1, .int .i64 1]) ∧ 4 ≤ c0 ∧ n ≤ c1 ∧ Kd.C (Kd.int .i64) w' A0 4 [4, 0, 2, 2] ∧ Kd.C (Kd.int .i64) w' A1 n l ∧ Below w0.heap.size w0 w' := by
  subst hn
  refine (standbylaw56_example.calls (fun _ => True) v l [4, 0, 2, 2] l 2 1 1 w0 w hB ho rfl).mono ?_
  rintro e w' ⟨v0, v1, rfl, h0, h1, hb, _⟩
  obtain ⟨A0, c0, rfl, hc0, hC0⟩ := Kd.R_reads h0
  obtain ⟨A1, c1, rfl, hc1, hC1⟩ := Kd.R_reads h1
  exact ⟨A0, c0, A1, c1, rfl, hc0, hc1, hC0, hC1, hb⟩

theorem planG (n m : Nat) (l : List Int) (p : Int) (r1 r2 r3 r4 : List Int) (r5 r6 : Int) (A0 : Option Addr) (c0 : Nat) (A1 : Option Addr) (c1 : Nat) (w : World) (hn : l.length = n) (hm : r1.length = m ∧ r2.length = m ∧ r3.length = m ∧ r4.length = m)
    (h0 : 4 ≤ c0) (h1 : n ≤ c1) (hC0 : Kd.C (Kd.int .i64) w A0 4 [4, 0, 2, 2]) (hC1 : Kd.C (Kd.int .i64) w A1 n l) (h : planner_Plan.f 40 [4, 0, 2, 2] l p 1 1 = some (r1, r2, r3, r4, r5, r6)) :
    Calls Try.prog 13 #[.agg #[.slice A0 4 c0, .slice A1 n c1, .int .i64 p, .int .i64 1, .int .i64 1]] w fun e w' => ∃ B0 d0 B1 d1 B2 d2 B3 d3, e = .returned (.tuple #[.agg #[.slice B0 m d0, .slice B1 m d1, .slice B2 m d2, .slice B3 m d3, .int .i64 r5], .int .i64 r6]) ∧
      (m ≤ d0 ∧ m ≤ d1 ∧ m ≤ d2 ∧ m ≤ d3) ∧ Kd.C (Kd.int .i64) w' B0 m r1 ∧ Kd.C (Kd.int .i64) w' B1 m r2 ∧ Kd.C (Kd.int .i64) w' B2 m r3 ∧ Kd.C (Kd.int .i64) w' B3 m r4 ∧ Below w.heap.size w w' := by
  subst hn
  obtain ⟨hm1, hm2, hm3, hm4⟩ := hm
  refine (planner_Plan.calls 40 A0 c0 [4, 0, 2, 2] A1 c1 l p 1 1 r1 r2 r3 r4 r5 r6 w hC0 h0 hC1 h1 h).mono ?_
  rintro e w' ⟨v0, v1, v2, v3, rfl, R0, R1, R2, R3, hb⟩
  obtain ⟨B0, d0, rfl, e0, k0⟩ := Kd.R_reads R0
  obtain ⟨B1, d1, rfl, e1, k1⟩ := Kd.R_reads R1
  obtain ⟨B2, d2, rfl, e2, k2⟩ := Kd.R_reads R2
  obtain ⟨B3, d3, rfl, e3, k3⟩ := Kd.R_reads R3
  rw [hm1] at e0 k0
  rw [hm2] at e1 k1
  rw [hm3] at e2 k2
  rw [hm4] at e3 k3
  rw [hm1, hm2, hm3, hm4]
  exact ⟨B0, d0, B1, d1, B2, d2, B3, d3, rfl, ⟨e0, e1, e2, e3⟩, k0, k1, k2, k3, hb⟩

theorem ageG (i : Nat) (hi : i < 10) (y : Int) (hy : rd [0, 1, 2, 3, 4, 5, 4, 5, 4, 5] (i : Int) = y) (A0 : Option Addr) (c0 : Nat) (A1 : Option Addr) (c1 : Nat) (B0 : Option Addr) (d0 : Nat) (B1 : Option Addr) (d1 : Nat) (B2 : Option Addr) (d2 : Nat) (B3 : Option Addr) (d3 : Nat) (w : World)
    (h0 : 4 ≤ c0) (h1 : 1 ≤ c1) (hC0 : Kd.C (Kd.int .i64) w A0 4 [4, 0, 2, 2]) (hC1 : Kd.C (Kd.int .i64) w A1 1 [2]) (hd : 2 ≤ d0 ∧ 2 ≤ d1 ∧ 2 ≤ d2 ∧ 2 ≤ d3) (hB : Kd.C (Kd.int .i64) w B0 2 [2, 4] ∧ Kd.C (Kd.int .i64) w B1 2 [2, 4] ∧ Kd.C (Kd.int .i64) w B2 2 [4, 6] ∧ Kd.C (Kd.int .i64) w B3 2 [6, 8]) :
    Calls Try.prog 19 #[.agg #[.slice A0 4 c0, .slice A1 1 c1, .int .i64 2, .int .i64 1, .int .i64 1], .agg #[.slice B0 2 d0, .slice B1 2 d1, .slice B2 2 d2, .slice B3 2 d3, .int .i64 5], .int .i64 i] w fun e w' => e = .returned (.tuple #[.int .i64 y, .int .i64 0]) ∧ Below w.heap.size w w' := by
  subst hy
  exact planner_Age.calls 40 A0 c0 [4, 0, 2, 2] A1 c1 [2] 2 1 1 B0 d0 [2, 4] B1 d1 [2, 4] B2 d2 [4, 6] B3 d3 [6, 8] 5 i _ 0 w hC0 h0 hC1 h1 hB.1 hd.1 hB.2.1 hd.2.1 hB.2.2.1 hd.2.2.1 hB.2.2.2 hd.2.2.2 (AW8 ⟨i, hi⟩)
theorem verG (x r : Int) (h : planner_Verify.f 40 [4, 0, 2, 2] [x] 2 1 1 [2, 4] [2, 4] [4, 6] [6, 8] 5 = some r) (A0 : Option Addr) (c0 : Nat) (A1 : Option Addr) (c1 : Nat) (B0 : Option Addr) (d0 : Nat) (B1 : Option Addr) (d1 : Nat) (B2 : Option Addr) (d2 : Nat) (B3 : Option Addr) (d3 : Nat) (w : World)
    (h0 : 4 ≤ c0) (h1 : 1 ≤ c1) (hC0 : Kd.C (Kd.int .i64) w A0 4 [4, 0, 2, 2]) (hC1 : Kd.C (Kd.int .i64) w A1 1 [x]) (hd : 2 ≤ d0 ∧ 2 ≤ d1 ∧ 2 ≤ d2 ∧ 2 ≤ d3) (hB : Kd.C (Kd.int .i64) w B0 2 [2, 4] ∧ Kd.C (Kd.int .i64) w B1 2 [2, 4] ∧ Kd.C (Kd.int .i64) w B2 2 [4, 6] ∧ Kd.C (Kd.int .i64) w B3 2 [6, 8]) :
    Calls Try.prog 21 #[.agg #[.slice A0 4 c0, .slice A1 1 c1, .int .i64 2, .int .i64 1, .int .i64 1], .agg #[.slice B0 2 d0, .slice B1 2 d1, .slice B2 2 d2, .slice B3 2 d3, .int .i64 5]] w fun e w' => e = .returned (.int .i64 r) ∧ Below w.heap.size w w' :=
  planner_Verify.calls 40 A0 c0 [4, 0, 2, 2] A1 c1 [x] 2 1 1 B0 d0 [2, 4] B1 d1 [2, 4] B2 d2 [4, 6] B3 d3 [6, 8] 5 r w hC0 h0 hC1 h1 hB.1 hd.1 hB.2.1 hd.2.1 hB.2.2.1 hd.2.2.1 hB.2.2.2 hd.2.2.2 h
theorem rateG (x o r1 r2 : Int) (h : planner_Rate.f 40 [4, 0, 2, 2] [x] 2 1 1 o = some (r1, r2)) (A0 : Option Addr) (c0 : Nat) (A1 : Option Addr) (c1 : Nat) (w : World) (h0 : 4 ≤ c0) (h1 : 1 ≤ c1) (hC0 : Kd.C (Kd.int .i64) w A0 4 [4, 0, 2, 2]) (hC1 : Kd.C (Kd.int .i64) w A1 1 [x]) :
    Calls Try.prog 29 #[.agg #[.slice A0 4 c0, .slice A1 1 c1, .int .i64 2, .int .i64 1, .int .i64 1], .int .i64 o] w fun e w' => e = .returned (.tuple #[.int .i64 r1, .int .i64 r2]) ∧ Below w.heap.size w w' :=
  planner_Rate.calls 40 A0 c0 [4, 0, 2, 2] A1 c1 [x] 2 1 1 o r1 r2 w hC0 h0 hC1 h1 h
section
variable {P : Program} {ops : Array Oper} {o : Oper} {a : Act} {Q : Exit → Act → World → Prop} {Kc : Act → World → Prop}
theorem litR1_step {W : World} (hw : Region.wanted o (yielded ops a.tmps) = true) {N : Tmp} (_hd : o.dst = some N) {x : Int}
    (hrun : (execOp a.eval o).run P W = .ok (.value (.slice (some ⟨W.heap.size, 0, none⟩) 1 1)) (W.alloc (.cells #[.int .i64 x] 3 (0, 0))))
    (h : ∀ b w1, Kd.R (Kd.int .i64) 3 w1 W.heap.size (fun _ => True) (.slice (some ⟨b, 0, none⟩) 1 1) [x] → Below W.heap.size W w1 → Kc (a.put o.dst (.slice (some ⟨b, 0, none⟩) 1 1)) w1) : if Region.wanted o (yielded ops a.tmps) = true then Oper.wp P o a W Kc Q else Kc (a.put o.dst undef) W :=
  event_step hw hrun (h _ _ (litR1 W x 3) (below_alloc (Below.refl _ _) _))
end

/-- The plan of the first example, as it lies in memory. -/
def PlanAt (w : World) (b : Nat) (r1 r2 r3 r4 : List Int) (r5 : Int) : Prop := ∃ B0 d0 B1 d1 B2 d2 B3 d3,
  w.heap[b]? = some (.cells #[.slice B0 2 d0, .slice B1 2 d1, .slice B2 2 d2, .slice B3 2 d3, .int .i64 r5] 28 (0, 0)) ∧ (2 ≤ d0 ∧ 2 ≤ d1 ∧ 2 ≤ d2 ∧ 2 ≤ d3) ∧
  Kd.C (Kd.int .i64) w B0 2 r1 ∧ Kd.C (Kd.int .i64) w B1 2 r2 ∧ Kd.C (Kd.int .i64) w B2 2 r3 ∧ Kd.C (Kd.int .i64) w B3 2 r4
theorem PlanAt.below {w w1 : World} {b : Nat} {r1 r2 r3 r4 : List Int} {r5 : Int} (h : PlanAt w b r1 r2 r3 r4 r5) (hb : Below w.heap.size w w1) : PlanAt w1 b r1 r2 r3 r4 r5 := by
  obtain ⟨B0, d0, B1, d1, B2, d2, B3, d3, h1, h2, k0, k1, k2, k3⟩ := h
  exact ⟨B0, d0, B1, d1, B2, d2, B3, d3, blk_below h1 hb, h2, Kd.C_below k0 hb, Kd.C_below k1 hb, Kd.C_below k2 hb, Kd.C_below k3 hb⟩

set_option maxHeartbeats 4000000 in
set_option maxRecDepth 100000 in
theorem awake_run (w : World) : Calls Try.prog 12 #[] w fun e w' => e = .returned (.bool true) ∧ Below w.heap.size w w' := by
  go_enter Try.func12, Try.ntmps12
  go_wp2_with fail
  refine (exG _ [2] 1 rfl w _ (below_alloc (Below.refl _ _) _) (litR1 w 2 3)).mono ?_
  rintro e w1 ⟨A0, c0, A1, c1, rfl, h0, h1, hC0, hC1, hb1⟩
  go_wp2_with fail
  refine (planG 1 2 [2] 2 _ _ _ _ _ _ A0 c0 A1 c1 w1 rfl ⟨rfl, rfl, rfl, rfl⟩ h0 h1 hC0 hC1 AW1).mono ?_
  rintro e w2 ⟨B0, d0, B1, d1, B2, d2, B3, d3, rfl, hd, k0, k1, k2, k3, hb2⟩
  clear h0 h1 hC0 hC1
  go_upto_region 2 with (fail)
  refine name_world ?_
  intro W1 hW1
  have HB1 : Aside0 (Below w.heap.size w W1) := ⟨by rw [← hW1.out]; exact below_alloc (below_then hb1 hb1.size hb2) _⟩
  have hk1 : W1.heap[w2.heap.size]? = some (.cells #[.slice B0 2 d0, .slice B1 2 d1, .slice B2 2 d2, .slice B3 2 d3, .int .i64 5] 28 (0, 0)) := by rw [← hW1.out]; exact heap_alloc_new w2 _
  have h21 : Below w2.heap.size w2 W1 := by rw [← hW1.out]; exact below_alloc (Below.refl _ _) _
  have PK : Aside0 (W1.heap[w2.heap.size]? = some (.cells #[.slice B0 2 d0, .slice B1 2 d1, .slice B2 2 d2, .slice B3 2 d3, .int .i64 5] 28 (0, 0))) := ⟨hk1⟩
  have PC : Aside0 (∀ W, Below W1.heap.size W1 W → Kd.C (Kd.int .i64) W B0 2 [2, 4] ∧ Kd.C (Kd.int .i64) W B1 2 [2, 4] ∧ Kd.C (Kd.int .i64) W B2 2 [4, 6] ∧ Kd.C (Kd.int .i64) W B3 2 [6, 8]) :=
    ⟨fun W hW => ⟨Kd.C_below (Kd.C_below k0 h21) hW, Kd.C_below (Kd.C_below k1 h21) hW, Kd.C_below (Kd.C_below k2 h21) hW, Kd.C_below (Kd.C_below k3 h21) hW⟩⟩
  have PD := Aside0.mk hd
  clear hW1 hb1 hb2 k0 k1 k2 k3 hk1 h21 hd
  go_wp2_with fail
  refine (exG _ [1] 1 rfl W1 _ (below_alloc (Below.refl _ _) _) (litR1 W1 1 3)).mono ?_
  rintro e w3 ⟨A2, c2, A3, c3, rfl, h0, h1, hC0, hC1, hb1⟩
  go_wp2_with fail
  refine (planG 1 2 [1] 2 _ _ _ _ _ _ A2 c2 A3 c3 w3 rfl ⟨rfl, rfl, rfl, rfl⟩ h0 h1 hC0 hC1 AW2).mono ?_
  rintro e w4 ⟨D0, g0, D1, g1, D2, g2, D3, g3, rfl, hd, _, _, _, k3, hb2⟩
  clear h0 h1 hC0 hC1
  go_upto_region 3 with (fail)
  refine name_world ?_
  intro W2 hW2
  have h12 : Below W1.heap.size W1 W2 := by rw [← hW2.out]; exact below_alloc (below_then hb1 hb1.size hb2) _
  have HB2 : Aside0 (Below W1.heap.size W1 W2) := ⟨h12⟩
  have QK : Aside0 (W2.heap[w4.heap.size]? = some (.cells #[.slice D0 2 g0, .slice D1 2 g1, .slice D2 2 g2, .slice D3 2 g3, .int .i64 9] 28 (0, 0))) := ⟨by rw [← hW2.out]; exact heap_alloc_new w4 _⟩
  have QC : Aside0 (Kd.C (Kd.int .i64) W2 D3 2 [8, 12] ∧ 2 ≤ g3) := ⟨⟨Kd.C_below k3 (by rw [← hW2.out]; exact below_alloc (Below.refl _ _) _), hd.2.2.2⟩⟩
  clear hW2 hb1 hb2 k3 h12 hd
  go_wp2_with fail
  refine (exG _ [2, 0] 2 rfl W2 _ (below_alloc (Below.refl _ _) _) (litR2 W2 2 0 3)).mono ?_
  rintro e w5 ⟨A4, c4, A5, c5, rfl, h0, h1, hC0, hC1, hb1⟩
  go_upto_region 5 with (fail)
  refine name_world ?_
  intro W3 hW3
  have h23 : Below W2.heap.size W2 W3 := by rw [← hW3.out]; exact below_alloc hb1 _
  have HB3 : Aside0 (Below W2.heap.size W2 W3) := ⟨h23⟩
  have hk3 : W3.heap[w5.heap.size]? = some (.cells #[.slice A4 4 c4, .slice A5 2 c5, .int .i64 4, .int .i64 1, .int .i64 1] 24 (0, 0)) := by rw [← hW3.out]; exact heap_alloc_new w5 _
  have h53 : Below w5.heap.size w5 W3 := by rw [← hW3.out]; exact below_alloc (Below.refl _ _) _
  have HC4 := Aside0.mk (Kd.C_below hC0 h53)
  have HC5 := Aside0.mk (Kd.C_below hC1 h53)
  have s0 := (blk_cell hk3 0).trans rfl
  have s1 := (blk_cell hk3 1).trans rfl
  have s2 := (blk_cell hk3 2).trans rfl
  have s3 := (blk_cell hk3 3).trans rfl
  have s4 := (blk_cell hk3 4).trans rfl
  have H0 := Aside0.mk h0
  have H1 := Aside0.mk h1
  clear hW3 hb1 h23 hk3 h53 h0 h1 hC0 hC1
  go_wp2_with fail
  refine (planG 2 0 [2, 0] 4 _ _ _ _ _ _ A4 c4 A5 c5 W3 rfl ⟨rfl, rfl, rfl, rfl⟩ H0.out H1.out HC4.out HC5.out AW3).mono ?_
  rintro e w6 ⟨E0, f0, E1, f1, E2, f2, E3, f3, rfl, _, _, _, _, _, hb1⟩
  have HB6 := Aside0.mk hb1
  clear s0 s1 s2 s3 s4 HC4 HC5 H0 H1 hb1
  go_upto_region 6 with (fail)
  refine name_world ?_
  intro W4 hW4
  have HB4 : Aside0 (Below W3.heap.size W3 W4) := ⟨by rw [← hW4.out]; exact below_alloc HB6.out _⟩
  clear hW4 HB6
  go_upto_region 7 with (fail)
  refine name_world ?_
  intro W5 hW5
  obtain ⟨hw0, hw1, hw2, hw3, hw4, h45⟩ := want_at hW5.out
  have h15 := below_then HB2.out HB2.out.size (below_then HB3.out HB3.out.size (below_then HB4.out HB4.out.size h45))
  have h25 := below_then HB3.out HB3.out.size (below_then HB4.out HB4.out.size h45)
  have HB5 : Aside0 (Below W1.heap.size W1 W5) := ⟨h15⟩
  have BW5 : Aside0 (Below w.heap.size w W5) := ⟨below_then HB1.out HB1.out.size h15⟩
  have WC : Aside0 (Kd.C (Kd.int .i64) W5 (some ⟨W4.heap.size, 0, none⟩) 2 [2, 4] ∧ Kd.C (Kd.int .i64) W5 (some ⟨W4.heap.size + 1, 0, none⟩) 2 [2, 4] ∧ Kd.C (Kd.int .i64) W5 (some ⟨W4.heap.size + 1 + 1, 0, none⟩) 2 [4, 6] ∧ Kd.C (Kd.int .i64) W5 (some ⟨W4.heap.size + 1 + 1 + 1, 0, none⟩) 2 [6, 8]) := ⟨hw1, hw2, hw3, hw4⟩
  have PC5 := Aside0.mk (PC.out W5 h15)
  have QC5 : Aside0 (∀ W, Below W5.heap.size W5 W → Kd.C (Kd.int .i64) W D3 2 [8, 12]) := ⟨fun W hW => Kd.C_below (Kd.C_below QC.out.1 h25) hW⟩
  have hp := blk_below PK.out h15
  have hq := blk_below QK.out h25
  have PK5 := Aside0.mk hp
  have QK5 := Aside0.mk hq
  have x0 := (blk_cell hp 0).trans rfl
  have x1 := (blk_cell hp 1).trans rfl
  have x2 := (blk_cell hp 2).trans rfl
  have x3 := (blk_cell hp 3).trans rfl
  have x4 := (blk_cell hp 4).trans rfl
  have y0 := (blk_cell hw0 0).trans rfl
  have y1 := (blk_cell hw0 1).trans rfl
  have y2 := (blk_cell hw0 2).trans rfl
  have y3 := (blk_cell hw0 3).trans rfl
  have y4 := (blk_cell hw0 4).trans rfl
  clear hW5 hw0 hw1 hw2 hw3 hw4 h45 h15 h25 hp hq
  go_wp2_with fail
  refine (standbyref56_Same.calls 40 B0 d0 [2, 4] B1 d1 [2, 4] B2 d2 [4, 6] B3 d3 [6, 8] 5 _ 2 [2, 4] _ 2 [2, 4] _ 2 [4, 6] _ 2 [6, 8] 5 true W5 PC5.out.1 PD.out.1 PC5.out.2.1 PD.out.2.1 PC5.out.2.2.1 PD.out.2.2.1 PC5.out.2.2.2 PD.out.2.2.2 WC.out.1 (Nat.le_refl 2) WC.out.2.1 (Nat.le_refl 2) WC.out.2.2.1 (Nat.le_refl 2) WC.out.2.2.2 (Nat.le_refl 2) AW9).mono ?_
  rintro e w7 ⟨rfl, hb⟩
  have HB7 := Aside0.mk hb
  have hq := blk_below QK5.out hb
  clear x0 x1 x2 x3 x4 y0 y1 y2 y3 y4
  have z3 := (blk_cell hq 3).trans rfl
  have z4 := (blk_cell hq 4).trans rfl
  clear hq hb
  go_wp2_with fail
  refine (slices_Equal_int_int.calls 40 D3 g3 [8, 12] (some ⟨w7.heap.size, 0, none⟩) 2 [8, 12] true _ (Kd.C_alloc (QC5.out _ HB7.out) _) QC.out.2 (litC2 w7 8 12 3) (Nat.le_refl 2) AW10).mono ?_
  rintro e w8 ⟨rfl, hb⟩
  have HB8 : Aside0 (Below W5.heap.size W5 w8) := ⟨below_then (below_alloc HB7.out _) (below_alloc HB7.out _).size hb.below⟩
  clear hb z3 z4
  go_upto_region 9 with (fail)
  have hlc : Kd.C (Kd.int .i64) (w8.alloc (.cells (nums .i64 [0, 1, 2, 3, 4, 5, 4, 5, 4, 5]).toArray 3)) (some ⟨w8.heap.size, 0, none⟩) 10 [0, 1, 2, 3, 4, 5, 4, 5, 4, 5] := (Kd.R_reads' (litR w8 [0, 1, 2, 3, 4, 5, 4, 5, 4, 5] 3 (by decide))).2.2
  go_wp2
  obtain ⟨LA, hLA⟩ : ∃ A : Option Addr, A = some ⟨w8.heap.size, 0, none⟩ := ⟨_, rfl⟩
  rw [← hLA] at hlc ⊢
  clear hLA
  have HLC := Aside0.mk hlc
  have h58 := below_alloc HB8.out (.cells (nums .i64 [0, 1, 2, 3, 4, 5, 4, 5, 4, 5]).toArray 3)
  have HBL : Aside0 (Below w.heap.size w (w8.alloc (.cells (nums .i64 [0, 1, 2, 3, 4, 5, 4, 5, 4, 5]).toArray 3))) := ⟨below_then BW5.out BW5.out.size h58⟩
  have h1L := below_then HB5.out HB5.out.size h58
  have PKL0 := Aside0.mk (blk_below PK5.out h58)
  have PCL0 : Aside0 (∀ W, Below (w8.alloc (.cells (nums .i64 [0, 1, 2, 3, 4, 5, 4, 5, 4, 5]).toArray 3)).heap.size (w8.alloc (.cells (nums .i64 [0, 1, 2, 3, 4, 5, 4, 5, 4, 5]).toArray 3)) W → Kd.C (Kd.int .i64) W B0 2 [2, 4] ∧ Kd.C (Kd.int .i64) W B1 2 [2, 4] ∧ Kd.C (Kd.int .i64) W B2 2 [4, 6] ∧ Kd.C (Kd.int .i64) W B3 2 [6, 8]) := ⟨fun W hW => PC.out W (below_then h1L h1L.size hW)⟩
  clear hlc h58 h1L
  obtain ⟨W9, hW9⟩ : ∃ W9, Aside0 (w8.alloc (.cells (nums .i64 [0, 1, 2, 3, 4, 5, 4, 5, 4, 5]).toArray 3) = W9) := ⟨_, ⟨rfl⟩⟩
  rw [hW9.out] at HLC HBL PKL0 PCL0
  have hcw := hW9.out
  simp only [nums, List.map_cons, List.map_nil] at hcw
  rw [hcw]
  clear hcw
  go_loopw [72] (fun v wr => ∃ i : Nat, i ≤ 10 ∧ v = .int .i64 i ∧ Aside0 (Below W9.heap.size W9 wr)) (fun v _ => 10 - (intOf v).toNat)
  case atStart => exact ⟨0, by omega, rfl, ⟨Below.refl _ _⟩⟩
  case round =>
    obtain ⟨n, hn, rfl, hb⟩ := hrel
    have PKL := Aside0.mk (blk_below PKL0.out hb.out)
    have PCL : Aside0 (∀ W, Below wr.heap.size wr W → Kd.C (Kd.int .i64) W B0 2 [2, 4] ∧ Kd.C (Kd.int .i64) W B1 2 [2, 4] ∧ Kd.C (Kd.int .i64) W B2 2 [4, 6] ∧ Kd.C (Kd.int .i64) W B3 2 [6, 8]) := ⟨fun W hW => PCL0.out W (below_then hb.out hb.out.size hW)⟩
    have hp := PKL.out
    have x0 := (blk_cell hp 0).trans rfl
    have x1 := (blk_cell hp 1).trans rfl
    have x2 := (blk_cell hp 2).trans rfl
    have x3 := (blk_cell hp 3).trans rfl
    have x4 := (blk_cell hp 4).trans rfl
    clear hp
    have HM0 := Aside0.mk (below_drew (Below.refl wr.heap.size wr))
    by_cases hlt : n < 10
    · obtain ⟨ad, hA, hcell⟩ := Kd.at_int (Kd.C_below HLC.out hb.out) (n : Int) (by omega) (by omega)
      subst hA
      rw [Int.toNat_natCast] at hcell
      have HLT := Aside0.mk hlt
      obtain ⟨y, hy⟩ : ∃ y, Aside0 (rd [0, 1, 2, 3, 4, 5, 4, 5, 4, 5] (n : Int) = y) := ⟨_, ⟨rfl⟩⟩
      rw [hy.out] at hcell
      have q0 : decide (n < 10) = true := decide_eq_true hlt
      have q1 : decide ((n : Int) < 10) = true := decide_eq_true (by omega)
      have p1 : ((n : Int) < 10) = True := eq_true (by omega)
      have p2 : (n < 10) = True := eq_true hlt
      have e0 : (y != y) = false := by simp
      have hn2 : n ≤ 4096 := by omega
      have e4 : wrap64 ((n : Int) + 1) = (n : Int) + 1 := by unfold wrap64; omega
      clear hlt
      go_upto_region 12 with (fail)
      refine start_ (n := 10) (S := fun w' => w'.cell? ⟨w2.heap.size, 0, none⟩ = some (.slice B0 2 d0) ∧ w'.cell? ⟨w2.heap.size, 1, none⟩ = some (.slice B1 2 d1) ∧ w'.cell? ⟨w2.heap.size, 2, none⟩ = some (.slice B2 2 d2) ∧ w'.cell? ⟨w2.heap.size, 3, none⟩ = some (.slice B3 2 d3) ∧ w'.cell? ⟨w2.heap.size, 4, none⟩ = some (.int .i64 5)) (ds := []) #[false, false, false, false, false, false, false, false, false, false] (by kernel_rfl) rfl rfl ⟨x0, x1, x2, x3, x4⟩ (fun hHeld => ?_)
      refine pure_ (i := 3) (N := some 81) (v := ?_) (a' := ?_) #[false, false, false, true, false, false, false, false, false, false] rfl rfl (by kernel_rfl) (fun _ _ _ h => h) (Or.inl ⟨by rfl, ?_⟩) ?_ ?_
      rotate_left
      · intro w'
        go_simp
        with_reducible rfl
      rotate_left
      · simp only [Act.put, List.setIfInBounds_toArray, List.set_cons_zero, List.set_cons_succ, i64_w, i32_w]
        rfl
      refine take_ (i := 2) (N := some 80) (v := ?_) (a' := ?_) #[false, false, true, true, false, false, false, false, false, false] rfl rfl (by kernel_rfl) (fun _ _ _ h => h) (Or.inl ⟨by rfl, ?_⟩) hHeld ?_ ?_
      rotate_left
      · rintro w' ⟨s0, s1, s2, s3, s4⟩
        go_simp
        with_reducible rfl
      rotate_left
      · simp only [Act.put, List.setIfInBounds_toArray, List.set_cons_zero, List.set_cons_succ, i64_w, i32_w]
        rfl
      refine one_ (i := 0) (N := some 78) #[true, false, true, true, false, false, false, false, false, false] rfl rfl (by kernel_rfl) (by decide) (fun K hK => ?_)
      refine litR1_step (by rfl) (N := 78) rfl (x := 2) (by go_simp <;> rfl) ?_
      intro sb1 v1 hcc hbl
      have HM1 := Aside0.mk (below_then HM0.out HM0.out.size hbl)
      have HC1 := Aside0.mk hcc
      have HL1 := Aside0.mk hbl
      clear hcc hbl
      refine hK.out _ _ ⟨(blk_cell (blk_below PKL.out HM1.out) 0).trans rfl, (blk_cell (blk_below PKL.out HM1.out) 1).trans rfl, (blk_cell (blk_below PKL.out HM1.out) 2).trans rfl, (blk_cell (blk_below PKL.out HM1.out) 3).trans rfl, (blk_cell (blk_below PKL.out HM1.out) 4).trans rfl⟩ (fun hHeld => ?_)
      clear hK K
      refine norm_ (a' := ?_) ?_ ?_
      rotate_left
      · show Act.put _ (some 78) _ = _
        simp only [Act.put, List.setIfInBounds_toArray, List.set_cons_zero, List.set_cons_succ, i64_w, i32_w]
        rfl
      refine one_ (i := 1) (N := some 79) #[true, true, true, true, false, false, false, false, false, false] rfl rfl (by kernel_rfl) (by decide) (fun K hK => ?_)
      refine goes_ Try.func34 (by kernel_rfl) rfl #[.slice (some ⟨sb1, 0, none⟩) 1 1] (by rfl) rfl rfl (by simp only [List.map_toArray, List.map_cons, List.map_nil]; rfl) ?_
      with_reducible refine (exG _ [2] 1 rfl _ _ HL1.out HC1.out).mono ?_
      rintro e v2 ⟨AA2, ca2, AB2, cb2, rfl, h0, h1, hC0, hC1, hbl⟩
      refine ⟨_, rfl, ?_⟩
      have HM2 := Aside0.mk (below_then HM0.out HM0.out.size hbl)
      have HE2 := Aside0.mk (And.intro h0 (And.intro h1 (And.intro hC0 hC1)))
      clear h0 h1 hC0 hC1 hbl
      refine hK.out _ _ ⟨(blk_cell (blk_below PKL.out HM2.out) 0).trans rfl, (blk_cell (blk_below PKL.out HM2.out) 1).trans rfl, (blk_cell (blk_below PKL.out HM2.out) 2).trans rfl, (blk_cell (blk_below PKL.out HM2.out) 3).trans rfl, (blk_cell (blk_below PKL.out HM2.out) 4).trans rfl⟩ (fun hHeld => ?_)
      clear hK K
      refine norm_ (a' := ?_) ?_ ?_
      rotate_left
      · show Act.put _ (some 79) _ = _
        simp only [Act.put, List.setIfInBounds_toArray, List.set_cons_zero, List.set_cons_succ, i64_w, i32_w]
        rfl
      refine one_ (i := 4) (N := some 82) #[true, true, true, true, true, false, false, false, false, false] rfl rfl (by kernel_rfl) (by decide) (fun K hK => ?_)
      refine goes_ Try.func19 (by kernel_rfl) rfl #[.agg #[.slice AA2 4 ca2, .slice AB2 1 cb2, .int .i64 2, .int .i64 1, .int .i64 1], .agg #[.slice B0 2 d0, .slice B1 2 d1, .slice B2 2 d2, .slice B3 2 d3, .int .i64 5], .int .i64 n] (by rfl) rfl rfl (by simp only [List.map_toArray, List.map_cons, List.map_nil]; rfl) ?_
      with_reducible refine (ageG n HLT.out y hy.out AA2 ca2 AB2 cb2 B0 d0 B1 d1 B2 d2 B3 d3 _ HE2.out.1 HE2.out.2.1 HE2.out.2.2.1 HE2.out.2.2.2 PD.out (PCL.out _ HM2.out)).mono ?_
      rintro e v3 ⟨rfl, hbl⟩
      refine ⟨_, rfl, ?_⟩
      have HM3 := Aside0.mk (below_then HM2.out HM2.out.size hbl)
      clear hbl
      refine hK.out _ _ ⟨(blk_cell (blk_below PKL.out HM3.out) 0).trans rfl, (blk_cell (blk_below PKL.out HM3.out) 1).trans rfl, (blk_cell (blk_below PKL.out HM3.out) 2).trans rfl, (blk_cell (blk_below PKL.out HM3.out) 3).trans rfl, (blk_cell (blk_below PKL.out HM3.out) 4).trans rfl⟩ (fun hHeld => ?_)
      clear hK K
      refine norm_ (a' := ?_) ?_ ?_
      rotate_left
      · show Act.put _ (some 82) _ = _
        simp only [Act.put, List.setIfInBounds_toArray, List.set_cons_zero, List.set_cons_succ, i64_w, i32_w]
        rfl
      refine pure_ (i := 5) (N := some 77) (v := ?_) (a' := ?_) #[true, true, true, true, true, true, false, false, false, false] rfl rfl (by kernel_rfl) (fun _ _ _ h => h) (Or.inl ⟨by rfl, ?_⟩) ?_ ?_
      rotate_left
      · intro w'
        go_simp
        with_reducible rfl
      rotate_left
      · simp only [Act.put, List.setIfInBounds_toArray, List.set_cons_zero, List.set_cons_succ, i64_w, i32_w]
        rfl
      refine pure_ (i := 6) (N := some 83) (v := ?_) (a' := ?_) #[true, true, true, true, true, true, true, false, false, false] rfl rfl (by kernel_rfl) (fun _ _ _ h => h) (Or.inl ⟨by rfl, ?_⟩) ?_ ?_
      rotate_left
      · intro w'
        go_simp
        with_reducible rfl
      rotate_left
      · simp only [Act.put, List.setIfInBounds_toArray, List.set_cons_zero, List.set_cons_succ, i64_w, i32_w]
        rfl
      refine pure_ (i := 7) (N := some 84) (v := ?_) (a' := ?_) #[true, true, true, true, true, true, true, true, false, false] rfl rfl (by kernel_rfl) (fun _ _ _ h => h) (Or.inl ⟨by rfl, ?_⟩) ?_ ?_
      rotate_left
      · intro w'
        go_simp
        with_reducible rfl
      rotate_left
      · simp only [Act.put, List.setIfInBounds_toArray, List.set_cons_zero, List.set_cons_succ, i64_w, i32_w]
        rfl
      refine pure_ (i := 8) (N := some 11) (v := ?_) (a' := ?_) #[true, true, true, true, true, true, true, true, true, false] rfl rfl (by kernel_rfl) (fun _ _ _ h => h) (Or.inl ⟨by rfl, ?_⟩) ?_ ?_
      rotate_left
      · intro w'
        go_simp
        with_reducible rfl
      rotate_left
      · simp only [Act.put, List.setIfInBounds_toArray, List.set_cons_zero, List.set_cons_succ, i64_w, i32_w]
        rfl
      refine pure_ (i := 9) (N := some 12) (v := ?_) (a' := ?_) #[true, true, true, true, true, true, true, true, true, true] rfl rfl (by kernel_rfl) (fun _ _ _ h => h) (Or.inl ⟨by rfl, ?_⟩) ?_ ?_
      rotate_left
      · intro w'
        go_simp
        with_reducible rfl
      rotate_left
      · simp only [Act.put, List.setIfInBounds_toArray, List.set_cons_zero, List.set_cons_succ, i64_w, i32_w]
        rfl
      refine done_ (by kernel_rfl) ?_

      have HBN := Aside0.mk (below_then hb.out hb.out.size HM3.out)
      clear x0 x1 x2 x3 x4 hHeld HM0 HM1 HM2 HM3 HC1 HL1 HE2
      go_wp2
      go_roundw
      case rel => exact ⟨n + 1, HLT.out, by first | rfl | go_num | simp, HBN⟩
      case measure => have := HLT.out; simp [intOf]; omega
    · obtain rfl : n = 10 := by omega
      clear hlt hn
      clear x0 x1 x2 x3 x4 HM0
      go_wp2_with fail
      refine (exG _ [9] 1 rfl wr _ (below_alloc (Below.refl _ _) _) (litR1 wr 9 3)).mono ?_
      rintro e v1 ⟨AA1, ca1, AB1, cb1, rfl, h0, h1, hC0, hC1, hb1⟩
      go_wp2_with fail
      refine (rateG 9 5 2 0 AW4 AA1 ca1 AB1 cb1 v1 h0 h1 hC0 hC1).mono ?_
      rintro e v2 ⟨rfl, hb2⟩
      have HV2 := Aside0.mk (below_then hb.out hb.out.size (below_then hb1 hb1.size hb2))
      clear h0 h1 hC0 hC1 hb1 hb2
      go_wp2_with fail
      refine (exG _ [9] 1 rfl v2 _ (below_alloc (Below.refl _ _) _) (litR1 v2 9 3)).mono ?_
      rintro e v3 ⟨AA3, ca3, AB3, cb3, rfl, h0, h1, hC0, hC1, hb1⟩
      go_wp2_with fail
      refine (rateG 9 3 0 21 AW5 AA3 ca3 AB3 cb3 v3 h0 h1 hC0 hC1).mono ?_
      rintro e v4 ⟨rfl, hb2⟩
      have HV4 := Aside0.mk (below_then HV2.out HV2.out.size (below_then hb1 hb1.size hb2))
      clear h0 h1 hC0 hC1 hb1 hb2
      go_upto_region 18 with (fail)
      have PKL := Aside0.mk (blk_below PKL0.out HV4.out)
      have PCL : Aside0 (∀ W, Below v4.heap.size v4 W → Kd.C (Kd.int .i64) W B0 2 [2, 4] ∧ Kd.C (Kd.int .i64) W B1 2 [2, 4] ∧ Kd.C (Kd.int .i64) W B2 2 [4, 6] ∧ Kd.C (Kd.int .i64) W B3 2 [6, 8]) := ⟨fun W hW => PCL0.out W (below_then HV4.out HV4.out.size hW)⟩
      have hp := PKL.out
      have x0 := (blk_cell hp 0).trans rfl
      have x1 := (blk_cell hp 1).trans rfl
      have x2 := (blk_cell hp 2).trans rfl
      have x3 := (blk_cell hp 3).trans rfl
      have x4 := (blk_cell hp 4).trans rfl
      clear hp
      have HM0 := Aside0.mk (below_drew (Below.refl v4.heap.size v4))
      refine start_ (n := 25) (S := fun w' => w'.cell? ⟨w2.heap.size, 0, none⟩ = some (.slice B0 2 d0) ∧ w'.cell? ⟨w2.heap.size, 1, none⟩ = some (.slice B1 2 d1) ∧ w'.cell? ⟨w2.heap.size, 2, none⟩ = some (.slice B2 2 d2) ∧ w'.cell? ⟨w2.heap.size, 3, none⟩ = some (.slice B3 2 d3) ∧ w'.cell? ⟨w2.heap.size, 4, none⟩ = some (.int .i64 5)) (ds := []) #[false, false, false, false, false, false, false, false, false, false, false, false, false, false, false, false, false, false, false, false, false, false, false, false, false] (by kernel_rfl) rfl rfl ⟨x0, x1, x2, x3, x4⟩ (fun hHeld => ?_)
      refine pure_ (i := 0) (N := some 105) (v := ?_) (a' := ?_) #[true, false, false, false, false, false, false, false, false, false, false, false, false, false, false, false, false, false, false, false, false, false, false, false, false] rfl rfl (by kernel_rfl) (fun _ _ _ h => h) (Or.inl ⟨by rfl, ?_⟩) ?_ ?_
      rotate_left
      · intro w'
        go_simp
        with_reducible rfl
      rotate_left
      · simp only [Act.put, List.setIfInBounds_toArray, List.set_cons_zero, List.set_cons_succ, i64_w, i32_w]
        rfl
      refine pure_ (i := 1) (N := some 106) (v := ?_) (a' := ?_) #[true, true, false, false, false, false, false, false, false, false, false, false, false, false, false, false, false, false, false, false, false, false, false, false, false] rfl rfl (by kernel_rfl) (fun _ _ _ h => h) (Or.inl ⟨by rfl, ?_⟩) ?_ ?_
      rotate_left
      · intro w'
        go_simp
        with_reducible rfl
      rotate_left
      · simp only [Act.put, List.setIfInBounds_toArray, List.set_cons_zero, List.set_cons_succ, i64_w, i32_w]
        rfl
      refine pure_ (i := 2) (N := some 107) (v := ?_) (a' := ?_) #[true, true, true, false, false, false, false, false, false, false, false, false, false, false, false, false, false, false, false, false, false, false, false, false, false] rfl rfl (by kernel_rfl) (fun _ _ _ h => h) (Or.inl ⟨by rfl, ?_⟩) ?_ ?_
      rotate_left
      · intro w'
        go_simp
        with_reducible rfl
      rotate_left
      · simp only [Act.put, List.setIfInBounds_toArray, List.set_cons_zero, List.set_cons_succ, i64_w, i32_w]
        rfl
      refine pure_ (i := 3) (N := some 108) (v := ?_) (a' := ?_) #[true, true, true, true, false, false, false, false, false, false, false, false, false, false, false, false, false, false, false, false, false, false, false, false, false] rfl rfl (by kernel_rfl) (fun _ _ _ h => h) (Or.inl ⟨by rfl, ?_⟩) ?_ ?_
      rotate_left
      · intro w'
        go_simp
        with_reducible rfl
      rotate_left
      · simp only [Act.put, List.setIfInBounds_toArray, List.set_cons_zero, List.set_cons_succ, i64_w, i32_w]
        rfl
      refine pure_ (i := 4) (N := some 109) (v := ?_) (a' := ?_) #[true, true, true, true, true, false, false, false, false, false, false, false, false, false, false, false, false, false, false, false, false, false, false, false, false] rfl rfl (by kernel_rfl) (fun _ _ _ h => h) (Or.inl ⟨by rfl, ?_⟩) ?_ ?_
      rotate_left
      · intro w'
        go_simp
        with_reducible rfl
      rotate_left
      · simp only [Act.put, List.setIfInBounds_toArray, List.set_cons_zero, List.set_cons_succ, i64_w, i32_w]
        rfl
      refine pure_ (i := 5) (N := some 110) (v := ?_) (a' := ?_) #[true, true, true, true, true, true, false, false, false, false, false, false, false, false, false, false, false, false, false, false, false, false, false, false, false] rfl rfl (by kernel_rfl) (fun _ _ _ h => h) (Or.inl ⟨by rfl, ?_⟩) ?_ ?_
      rotate_left
      · intro w'
        go_simp
        with_reducible rfl
      rotate_left
      · simp only [Act.put, List.setIfInBounds_toArray, List.set_cons_zero, List.set_cons_succ, i64_w, i32_w]
        rfl
      refine pure_ (i := 6) (N := some 111) (v := ?_) (a' := ?_) #[true, true, true, true, true, true, true, false, false, false, false, false, false, false, false, false, false, false, false, false, false, false, false, false, false] rfl rfl (by kernel_rfl) (fun _ _ _ h => h) (Or.inl ⟨by rfl, ?_⟩) ?_ ?_
      rotate_left
      · intro w'
        go_simp
        with_reducible rfl
      rotate_left
      · simp only [Act.put, List.setIfInBounds_toArray, List.set_cons_zero, List.set_cons_succ, i64_w, i32_w]
        rfl
      refine pure_ (i := 7) (N := some 112) (v := ?_) (a' := ?_) #[true, true, true, true, true, true, true, true, false, false, false, false, false, false, false, false, false, false, false, false, false, false, false, false, false] rfl rfl (by kernel_rfl) (fun _ _ _ h => h) (Or.inl ⟨by rfl, ?_⟩) ?_ ?_
      rotate_left
      · intro w'
        go_simp
        with_reducible rfl
      rotate_left
      · simp only [Act.put, List.setIfInBounds_toArray, List.set_cons_zero, List.set_cons_succ, i64_w, i32_w]
        rfl
      refine pure_ (i := 8) (N := some 113) (v := ?_) (a' := ?_) #[true, true, true, true, true, true, true, true, true, false, false, false, false, false, false, false, false, false, false, false, false, false, false, false, false] rfl rfl (by kernel_rfl) (fun _ _ _ h => h) (Or.inl ⟨by rfl, ?_⟩) ?_ ?_
      rotate_left
      · intro w'
        go_simp
        with_reducible rfl
      rotate_left
      · simp only [Act.put, List.setIfInBounds_toArray, List.set_cons_zero, List.set_cons_succ, i64_w, i32_w]
        rfl
      refine pure_ (i := 9) (N := some 114) (v := ?_) (a' := ?_) #[true, true, true, true, true, true, true, true, true, true, false, false, false, false, false, false, false, false, false, false, false, false, false, false, false] rfl rfl (by kernel_rfl) (fun _ _ _ h => h) (Or.inl ⟨by rfl, ?_⟩) ?_ ?_
      rotate_left
      · intro w'
        go_simp
        with_reducible rfl
      rotate_left
      · simp only [Act.put, List.setIfInBounds_toArray, List.set_cons_zero, List.set_cons_succ, i64_w, i32_w]
        rfl
      refine pure_ (i := 10) (N := some 115) (v := ?_) (a' := ?_) #[true, true, true, true, true, true, true, true, true, true, true, false, false, false, false, false, false, false, false, false, false, false, false, false, false] rfl rfl (by kernel_rfl) (fun _ _ _ h => h) (Or.inl ⟨by rfl, ?_⟩) ?_ ?_
      rotate_left
      · intro w'
        go_simp
        with_reducible rfl
      rotate_left
      · simp only [Act.put, List.setIfInBounds_toArray, List.set_cons_zero, List.set_cons_succ, i64_w, i32_w]
        rfl
      refine take_ (i := 13) (N := some 118) (v := ?_) (a' := ?_) #[true, true, true, true, true, true, true, true, true, true, true, false, false, true, false, false, false, false, false, false, false, false, false, false, false] rfl rfl (by kernel_rfl) (fun _ _ _ h => h) (Or.inl ⟨by rfl, ?_⟩) hHeld ?_ ?_
      rotate_left
      · rintro w' ⟨s0, s1, s2, s3, s4⟩
        go_simp
        with_reducible rfl
      rotate_left
      · simp only [Act.put, List.setIfInBounds_toArray, List.set_cons_zero, List.set_cons_succ, i64_w, i32_w]
        rfl
      refine one_ (i := 11) (N := some 116) #[true, true, true, true, true, true, true, true, true, true, true, true, false, true, false, false, false, false, false, false, false, false, false, false, false] rfl rfl (by kernel_rfl) (by decide) (fun K hK => ?_)
      refine litR1_step (by rfl) (N := 116) rfl (x := 2) (by go_simp <;> rfl) ?_
      intro sb1 v1 hcc hbl
      have HM1 := Aside0.mk (below_then HM0.out HM0.out.size hbl)
      have HC1 := Aside0.mk hcc
      have HL1 := Aside0.mk hbl
      clear hcc hbl
      refine hK.out _ _ ⟨(blk_cell (blk_below PKL.out HM1.out) 0).trans rfl, (blk_cell (blk_below PKL.out HM1.out) 1).trans rfl, (blk_cell (blk_below PKL.out HM1.out) 2).trans rfl, (blk_cell (blk_below PKL.out HM1.out) 3).trans rfl, (blk_cell (blk_below PKL.out HM1.out) 4).trans rfl⟩ (fun hHeld => ?_)
      clear hK K
      refine norm_ (a' := ?_) ?_ ?_
      rotate_left
      · show Act.put _ (some 116) _ = _
        simp only [Act.put, List.setIfInBounds_toArray, List.set_cons_zero, List.set_cons_succ, i64_w, i32_w]
        rfl
      refine one_ (i := 12) (N := some 117) #[true, true, true, true, true, true, true, true, true, true, true, true, true, true, false, false, false, false, false, false, false, false, false, false, false] rfl rfl (by kernel_rfl) (by decide) (fun K hK => ?_)
      refine goes_ Try.func34 (by kernel_rfl) rfl #[.slice (some ⟨sb1, 0, none⟩) 1 1] (by rfl) rfl rfl (by simp only [List.map_toArray, List.map_cons, List.map_nil]; rfl) ?_
      with_reducible refine (exG _ [2] 1 rfl _ _ HL1.out HC1.out).mono ?_
      rintro e v2 ⟨AA2, ca2, AB2, cb2, rfl, h0, h1, hC0, hC1, hbl⟩
      refine ⟨_, rfl, ?_⟩
      have HM2 := Aside0.mk (below_then HM0.out HM0.out.size hbl)
      have HE2 := Aside0.mk (And.intro h0 (And.intro h1 (And.intro hC0 hC1)))
      clear h0 h1 hC0 hC1 hbl
      refine hK.out _ _ ⟨(blk_cell (blk_below PKL.out HM2.out) 0).trans rfl, (blk_cell (blk_below PKL.out HM2.out) 1).trans rfl, (blk_cell (blk_below PKL.out HM2.out) 2).trans rfl, (blk_cell (blk_below PKL.out HM2.out) 3).trans rfl, (blk_cell (blk_below PKL.out HM2.out) 4).trans rfl⟩ (fun hHeld => ?_)
      clear hK K
      refine norm_ (a' := ?_) ?_ ?_
      rotate_left
      · show Act.put _ (some 117) _ = _
        simp only [Act.put, List.setIfInBounds_toArray, List.set_cons_zero, List.set_cons_succ, i64_w, i32_w]
        rfl
      refine one_ (i := 14) (N := some 119) #[true, true, true, true, true, true, true, true, true, true, true, true, true, true, true, false, false, false, false, false, false, false, false, false, false] rfl rfl (by kernel_rfl) (by decide) (fun K hK => ?_)
      refine goes_ Try.func21 (by kernel_rfl) rfl #[.agg #[.slice AA2 4 ca2, .slice AB2 1 cb2, .int .i64 2, .int .i64 1, .int .i64 1], .agg #[.slice B0 2 d0, .slice B1 2 d1, .slice B2 2 d2, .slice B3 2 d3, .int .i64 5]] (by rfl) rfl rfl (by simp only [List.map_toArray, List.map_cons, List.map_nil]; rfl) ?_
      with_reducible refine (verG 2 0 AW6 AA2 ca2 AB2 cb2 B0 d0 B1 d1 B2 d2 B3 d3 _ HE2.out.1 HE2.out.2.1 HE2.out.2.2.1 HE2.out.2.2.2 PD.out (PCL.out _ HM2.out)).mono ?_
      rintro e v3 ⟨rfl, hbl⟩
      refine ⟨_, rfl, ?_⟩
      have HM3 := Aside0.mk (below_then HM2.out HM2.out.size hbl)
      clear hbl
      refine hK.out _ _ ⟨(blk_cell (blk_below PKL.out HM3.out) 0).trans rfl, (blk_cell (blk_below PKL.out HM3.out) 1).trans rfl, (blk_cell (blk_below PKL.out HM3.out) 2).trans rfl, (blk_cell (blk_below PKL.out HM3.out) 3).trans rfl, (blk_cell (blk_below PKL.out HM3.out) 4).trans rfl⟩ (fun hHeld => ?_)
      clear hK K
      refine norm_ (a' := ?_) ?_ ?_
      rotate_left
      · show Act.put _ (some 119) _ = _
        simp only [Act.put, List.setIfInBounds_toArray, List.set_cons_zero, List.set_cons_succ, i64_w, i32_w]
        rfl
      refine pure_ (i := 15) (N := some 120) (v := ?_) (a' := ?_) #[true, true, true, true, true, true, true, true, true, true, true, true, true, true, true, true, false, false, false, false, false, false, false, false, false] rfl rfl (by kernel_rfl) (fun _ _ _ h => h) (Or.inl ⟨by rfl, ?_⟩) ?_ ?_
      rotate_left
      · intro w'
        go_simp
        with_reducible rfl
      rotate_left
      · simp only [Act.put, List.setIfInBounds_toArray, List.set_cons_zero, List.set_cons_succ, i64_w, i32_w]
        rfl
      refine pure_ (i := 16) (N := some 121) (v := ?_) (a' := ?_) #[true, true, true, true, true, true, true, true, true, true, true, true, true, true, true, true, true, false, false, false, false, false, false, false, false] rfl rfl (by kernel_rfl) (fun _ _ _ h => h) (Or.inl ⟨by rfl, ?_⟩) ?_ ?_
      rotate_left
      · intro w'
        go_simp
        with_reducible rfl
      rotate_left
      · simp only [Act.put, List.setIfInBounds_toArray, List.set_cons_zero, List.set_cons_succ, i64_w, i32_w]
        rfl
      refine pure_ (i := 17) (N := some 122) (v := ?_) (a' := ?_) #[true, true, true, true, true, true, true, true, true, true, true, true, true, true, true, true, true, true, false, false, false, false, false, false, false] rfl rfl (by kernel_rfl) (fun _ _ _ h => h) (Or.inl ⟨by rfl, ?_⟩) ?_ ?_
      rotate_left
      · intro w'
        go_simp
        with_reducible rfl
      rotate_left
      · simp only [Act.put, List.setIfInBounds_toArray, List.set_cons_zero, List.set_cons_succ, i64_w, i32_w]
        rfl
      refine take_ (i := 20) (N := some 125) (v := ?_) (a' := ?_) #[true, true, true, true, true, true, true, true, true, true, true, true, true, true, true, true, true, true, false, false, true, false, false, false, false] rfl rfl (by kernel_rfl) (fun _ _ _ h => h) (Or.inl ⟨by rfl, ?_⟩) hHeld ?_ ?_
      rotate_left
      · rintro w' ⟨s0, s1, s2, s3, s4⟩
        go_simp
        with_reducible rfl
      rotate_left
      · simp only [Act.put, List.setIfInBounds_toArray, List.set_cons_zero, List.set_cons_succ, i64_w, i32_w]
        rfl
      refine one_ (i := 18) (N := some 123) #[true, true, true, true, true, true, true, true, true, true, true, true, true, true, true, true, true, true, true, false, true, false, false, false, false] rfl rfl (by kernel_rfl) (by decide) (fun K hK => ?_)
      refine litR1_step (by rfl) (N := 123) rfl (x := 1) (by go_simp <;> rfl) ?_
      intro sb4 v4 hcc hbl
      have HM4 := Aside0.mk (below_then HM3.out HM3.out.size hbl)
      have HC4 := Aside0.mk hcc
      have HL4 := Aside0.mk hbl
      clear hcc hbl
      refine hK.out _ _ ⟨(blk_cell (blk_below PKL.out HM4.out) 0).trans rfl, (blk_cell (blk_below PKL.out HM4.out) 1).trans rfl, (blk_cell (blk_below PKL.out HM4.out) 2).trans rfl, (blk_cell (blk_below PKL.out HM4.out) 3).trans rfl, (blk_cell (blk_below PKL.out HM4.out) 4).trans rfl⟩ (fun hHeld => ?_)
      clear hK K
      refine norm_ (a' := ?_) ?_ ?_
      rotate_left
      · show Act.put _ (some 123) _ = _
        simp only [Act.put, List.setIfInBounds_toArray, List.set_cons_zero, List.set_cons_succ, i64_w, i32_w]
        rfl
      refine one_ (i := 19) (N := some 124) #[true, true, true, true, true, true, true, true, true, true, true, true, true, true, true, true, true, true, true, true, true, false, false, false, false] rfl rfl (by kernel_rfl) (by decide) (fun K hK => ?_)
      refine goes_ Try.func34 (by kernel_rfl) rfl #[.slice (some ⟨sb4, 0, none⟩) 1 1] (by rfl) rfl rfl (by simp only [List.map_toArray, List.map_cons, List.map_nil]; rfl) ?_
      with_reducible refine (exG _ [1] 1 rfl _ _ HL4.out HC4.out).mono ?_
      rintro e v5 ⟨AA5, ca5, AB5, cb5, rfl, h0, h1, hC0, hC1, hbl⟩
      refine ⟨_, rfl, ?_⟩
      have HM5 := Aside0.mk (below_then HM3.out HM3.out.size hbl)
      have HE5 := Aside0.mk (And.intro h0 (And.intro h1 (And.intro hC0 hC1)))
      clear h0 h1 hC0 hC1 hbl
      refine hK.out _ _ ⟨(blk_cell (blk_below PKL.out HM5.out) 0).trans rfl, (blk_cell (blk_below PKL.out HM5.out) 1).trans rfl, (blk_cell (blk_below PKL.out HM5.out) 2).trans rfl, (blk_cell (blk_below PKL.out HM5.out) 3).trans rfl, (blk_cell (blk_below PKL.out HM5.out) 4).trans rfl⟩ (fun hHeld => ?_)
      clear hK K
      refine norm_ (a' := ?_) ?_ ?_
      rotate_left
      · show Act.put _ (some 124) _ = _
        simp only [Act.put, List.setIfInBounds_toArray, List.set_cons_zero, List.set_cons_succ, i64_w, i32_w]
        rfl
      refine one_ (i := 21) (N := some 126) #[true, true, true, true, true, true, true, true, true, true, true, true, true, true, true, true, true, true, true, true, true, true, false, false, false] rfl rfl (by kernel_rfl) (by decide) (fun K hK => ?_)
      refine goes_ Try.func21 (by kernel_rfl) rfl #[.agg #[.slice AA5 4 ca5, .slice AB5 1 cb5, .int .i64 2, .int .i64 1, .int .i64 1], .agg #[.slice B0 2 d0, .slice B1 2 d1, .slice B2 2 d2, .slice B3 2 d3, .int .i64 5]] (by rfl) rfl rfl (by simp only [List.map_toArray, List.map_cons, List.map_nil]; rfl) ?_
      with_reducible refine (verG 1 22 AW7 AA5 ca5 AB5 cb5 B0 d0 B1 d1 B2 d2 B3 d3 _ HE5.out.1 HE5.out.2.1 HE5.out.2.2.1 HE5.out.2.2.2 PD.out (PCL.out _ HM5.out)).mono ?_
      rintro e v6 ⟨rfl, hbl⟩
      refine ⟨_, rfl, ?_⟩
      have HM6 := Aside0.mk (below_then HM5.out HM5.out.size hbl)
      clear hbl
      refine hK.out _ _ ⟨(blk_cell (blk_below PKL.out HM6.out) 0).trans rfl, (blk_cell (blk_below PKL.out HM6.out) 1).trans rfl, (blk_cell (blk_below PKL.out HM6.out) 2).trans rfl, (blk_cell (blk_below PKL.out HM6.out) 3).trans rfl, (blk_cell (blk_below PKL.out HM6.out) 4).trans rfl⟩ (fun hHeld => ?_)
      clear hK K
      refine norm_ (a' := ?_) ?_ ?_
      rotate_left
      · show Act.put _ (some 126) _ = _
        simp only [Act.put, List.setIfInBounds_toArray, List.set_cons_zero, List.set_cons_succ, i64_w, i32_w]
        rfl
      refine pure_ (i := 22) (N := some 127) (v := ?_) (a' := ?_) #[true, true, true, true, true, true, true, true, true, true, true, true, true, true, true, true, true, true, true, true, true, true, true, false, false] rfl rfl (by kernel_rfl) (fun _ _ _ h => h) (Or.inl ⟨by rfl, ?_⟩) ?_ ?_
      rotate_left
      · intro w'
        go_simp
        with_reducible rfl
      rotate_left
      · simp only [Act.put, List.setIfInBounds_toArray, List.set_cons_zero, List.set_cons_succ, i64_w, i32_w]
        rfl
      refine pure_ (i := 23) (N := some 128) (v := ?_) (a' := ?_) #[true, true, true, true, true, true, true, true, true, true, true, true, true, true, true, true, true, true, true, true, true, true, true, true, false] rfl rfl (by kernel_rfl) (fun _ _ _ h => h) (Or.inl ⟨by rfl, ?_⟩) ?_ ?_
      rotate_left
      · intro w'
        go_simp
        with_reducible rfl
      rotate_left
      · simp only [Act.put, List.setIfInBounds_toArray, List.set_cons_zero, List.set_cons_succ, i64_w, i32_w]
        rfl
      refine pure_ (i := 24) (N := some 0) (v := ?_) (a' := ?_) #[true, true, true, true, true, true, true, true, true, true, true, true, true, true, true, true, true, true, true, true, true, true, true, true, true] rfl rfl (by kernel_rfl) (fun _ _ _ h => h) (Or.inl ⟨by rfl, ?_⟩) ?_ ?_
      rotate_left
      · intro w'
        go_simp
        with_reducible rfl
      rotate_left
      · simp only [Act.put, List.setIfInBounds_toArray, List.set_cons_zero, List.set_cons_succ, i64_w, i32_w]
        rfl
      refine done_ (by kernel_rfl) ?_

      have HBN := Aside0.mk (below_then HBL.out HBL.out.size (below_then HV4.out HV4.out.size HM6.out))
      clear x0 x1 x2 x3 x4 hHeld HM0 HM1 HM2 HM3 HM4 HM5 HM6
      go_wp2
      go_ret
      exact ⟨rfl, HBN.out⟩

theorem standbylaw56_awake.calls (r : Bool) (w : World) (h : standbylaw56_awake.f = some r) :
    Calls Try.prog 12 #[] w fun e w' => e = .returned (.bool r) ∧ Below w.heap.size w w' := by
  obtain rfl := Option.some.inj h
  exact awake_run w
end Go.Proofs.Ytcflacjidabppaa.Pr

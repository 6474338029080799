/- The closure of planner.Rate: does a rate keep the objective. -/
import Derived.Test.YtcflacjidabppaaGPlan
import Derived.Laws.EntriesVeiled
namespace Go.Proofs.Ytcflacjidabppaa.Pr
open Go.RowKit Go.Proofs.YtcflacjidabppaaW.PrintWords Go.Proofs.YtcflacjidabppaaW.PrintLast Go.Proofs.YtcflacjidabppaaW.PrintMore
set_option linter.unusedVariables false
set_option linter.unusedSimpArgs false
attribute [local go_sem] max2_int min2_int max_two min_two max_three min_three max_four min_four

section
variable {P : Program} {ops : Array Oper} {o : Oper} {a : Act} {Q : Exit → Act → World → Prop} {Kc : Act → World → Prop}
theorem lit1_step {W : World} (hw : Region.wanted o (yielded ops a.tmps) = true) {N : Tmp} (_hd : o.dst = some N) {x : Int} {e : TypeId}
    (hrun : (execOp a.eval o).run P W = .ok (.value (.slice (some ⟨W.heap.size, 0, none⟩) 1 1)) (W.alloc (.cells #[.int .i64 x] e (0, 0))))
    (h : ∀ b w1, Kd.C (Kd.int .i64) w1 (some ⟨b, 0, none⟩) 1 [x] → Below W.heap.size W w1 → Kc (a.put o.dst (.slice (some ⟨b, 0, none⟩) 1 1)) w1) : if Region.wanted o (yielded ops a.tmps) = true then Oper.wp P o a W Kc Q else Kc (a.put o.dst undef) W := by
  refine event_step hw hrun (h _ _ ?_ (below_alloc (Below.refl _ _) _))
  have h0 := own_lit W W.heap.size e .i64 [x] (Nat.le_refl _) (by simp)
  have h1 : (Kd.int .i64).R e (W.alloc (.cells #[.int .i64 x] e)) W.heap.size (fun _ => True) (.slice (some ⟨W.heap.size, 0, none⟩) 1 1) [x] := Kd.R_of_own (h1 := fun _ => rfl) (xs := [x]) h0 (fun _ _ => trivial)
  exact (Kd.R_reads' h1).2.2
end
theorem newCarrier_one (b : Nat) (x : Int) (w : World) (hr : Kd.C (Kd.int .i64) w (some ⟨b, 0, none⟩) 1 [x]) (hx : ∀ y ∈ [x], 0 ≤ y ∧ y ≤ 4096) :
    Calls Try.prog 36 #[.slice (some ⟨b, 0, none⟩) 1 1] w fun e w' => ∃ g, e = .returned (.pointer (some ⟨g, 0, none⟩)) ∧ Car w' g (sumsOf [x]) x ∧ Below w.heap.size w w' :=
  newCarrier_calls (some ⟨b, 0, none⟩) 1 [x] w hr (Nat.le_refl 1) (show 1 ≤ 4096 by decide) hx
theorem name_then {K : Act → World → Prop} {Q : Exit → Act → World → Prop} {e : Exit} {a : Act} {W : World} (h : ∀ W2, Aside0 (W = W2) → Exit.then K Q e a W2) : Exit.then K Q e a W := h W ⟨rfl⟩
theorem rd_one (x : Int) : rd [x] ((([x] : List Int).length : Int) - 1) = x := rfl

set_option maxHeartbeats 4000000 in
set_option maxRecDepth 100000 in
theorem keeps_calls (k : Nat) (A0 : Option Addr) (c0 : Nat) (l0 : List Int) (A1 : Option Addr) (c1 : Nat) (l1 : List Int) (p q r rate obj : Int) (r1 r2 r3 r4 : List Int) (r5 r6 : Int) (tb ob : Nat) (w : World)
    (hr0 : Kd.C (Kd.int .i64) w A0 l0.length l0) (hc0 : l0.length ≤ c0) (hr1 : Kd.C (Kd.int .i64) w A1 l1.length l1) (hc1 : l1.length ≤ c1)
    (htb : w.heap[tb]? = some (.cells #[.slice A0 l0.length c0, .slice A1 l1.length c1, .int .i64 p, .int .i64 q, .int .i64 r] 24 (0, 0))) (hob : w.heap[ob]? = some (.cells #[.int .i64 obj] 3 (0, 0)))
    (hrate : 0 ≤ rate ∧ rate ≤ 4096) (h : planner_plan.f k l0 l1 p q r 0 (sumsOf [rate]) rate = some (r1, r2, r3, r4, r5, r6)) :
    Calls Try.prog 48 #[.int .i64 rate, .pointer (some ⟨tb, 0, none⟩), .pointer (some ⟨ob, 0, none⟩)] w fun e w' => e = .returned (.bool (decide (r6 = 0 ∧ r5 ≤ obj))) ∧ Below w.heap.size w w' := by
  have hx : ∀ x ∈ [rate], 0 ≤ x ∧ x ≤ 4096 := by intro x hx; rw [List.mem_singleton.1 hx]; exact hrate
  have HR0 := Aside0.mk hr0
  have HR1 := Aside0.mk hr1
  have TB := Aside0.mk htb
  have OB := Aside0.mk hob
  have HX := Aside0.mk hx
  have HSM : Aside0 (Small (sumsOf [rate]) rate) := ⟨sums_small (C := [rate]) (Nat.le_refl 1) (show 1 ≤ 4096 by decide) hx⟩
  have HUP := Aside0.mk (sums_up hx)
  have HP := Aside0.mk (show ∀ g, planner_plan.f k l0 l1 p q r g (sumsOf [rate]) rate = some (r1, r2, r3, r4, r5, r6) from fun g => h)
  have HB0 := Aside0.mk (below_drew (Below.refl w.heap.size w))
  have t0 : w.cell? ⟨tb, 0, none⟩ = some (.slice A0 l0.length c0) := (blk_cell htb 0).trans rfl
  have t1 : w.cell? ⟨tb, 1, none⟩ = some (.slice A1 l1.length c1) := (blk_cell htb 1).trans rfl
  have t2 : w.cell? ⟨tb, 2, none⟩ = some (.int .i64 p) := (blk_cell htb 2).trans rfl
  have t3 : w.cell? ⟨tb, 3, none⟩ = some (.int .i64 q) := (blk_cell htb 3).trans rfl
  have t4 : w.cell? ⟨tb, 4, none⟩ = some (.int .i64 r) := (blk_cell htb 4).trans rfl
  clear hr0 hr1 htb hob hx hrate h
  go_enter Try.func48, Try.ntmps48
  go_wp2_with fail
  refine start_ (n := 12) (S := fun w' => w'.cell? ⟨tb, 0, none⟩ = some (.slice A0 l0.length c0) ∧ w'.cell? ⟨tb, 1, none⟩ = some (.slice A1 l1.length c1) ∧ w'.cell? ⟨tb, 2, none⟩ = some (.int .i64 p) ∧ w'.cell? ⟨tb, 3, none⟩ = some (.int .i64 q) ∧ w'.cell? ⟨tb, 4, none⟩ = some (.int .i64 r)) (ds := [10]) #[false, false, false, false, false, false, false, false, false, false, false, false] (by kernel_rfl) rfl rfl ⟨t0, t1, t2, t3, t4⟩ (fun hHeld => ?_)
  refine pure_ (i := 1) (N := some 9) (v := ?_) (a' := ?_) #[false, true, false, false, false, false, false, false, false, false, false, false] rfl rfl (by kernel_rfl) (fun _ _ _ h => h) (Or.inl ⟨by rfl, ?_⟩) ?_ ?_
  rotate_left
  · intro w'
    go_simp
    with_reducible rfl
  rotate_left
  · simp only [Act.put, List.setIfInBounds_toArray, List.set_cons_zero, List.set_cons_succ, i64_w, i32_w]
    rfl
  refine take_ (i := 0) (N := some 8) (v := ?_) (a' := ?_) #[true, true, false, false, false, false, false, false, false, false, false, false] rfl rfl (by kernel_rfl) (fun _ _ _ h => h) (Or.inl ⟨by rfl, ?_⟩) hHeld ?_ ?_
  rotate_left
  · rintro w' ⟨s0, s1, s2, s3, s4⟩
    go_simp
    with_reducible rfl
  rotate_left
  · simp only [Act.put, List.setIfInBounds_toArray, List.set_cons_zero, List.set_cons_succ, i64_w, i32_w]
    rfl
  refine join_ (σ := (Option Addr × Nat) × (Option Addr × Nat) × (Option Addr × Nat) × (Option Addr × Nat) × Nat × Nat × Nat) 2 #[true, true, true, true, true, true, true, true, true, true, false, false] (fun s => [(10, .slice (some ⟨s.2.2.2.2.1, 0, none⟩) 1 1), (11, .pointer (some ⟨s.2.2.2.2.2.1, 0, none⟩)), (12, .func (.func 37) #[.pointer (some ⟨s.2.2.2.2.2.1, 0, none⟩)] #[]), (13, .tuple #[.agg #[.slice s.1.1 r1.length s.1.2, .slice s.2.1.1 r2.length s.2.1.2, .slice s.2.2.1.1 r3.length s.2.2.1.2, .slice s.2.2.2.1.1 r4.length s.2.2.2.1.2, .int .i64 r5], .int .i64 r6]), (7, .tuple #[.agg #[.slice s.1.1 r1.length s.1.2, .slice s.2.1.1 r2.length s.2.1.2, .slice s.2.2.1.1 r3.length s.2.2.1.2, .slice s.2.2.2.1.1 r4.length s.2.2.2.1.2, .int .i64 r5], .int .i64 r6]), (14, .agg #[.slice s.1.1 r1.length s.1.2, .slice s.2.1.1 r2.length s.2.1.2, .slice s.2.2.1.1 r3.length s.2.2.1.2, .slice s.2.2.2.1.1 r4.length s.2.2.2.1.2, .int .i64 r5]), (15, .int .i64 r6), (5, .pointer (some ⟨s.2.2.2.2.2.2, 0, none⟩))]) (fun s w' => Below w.heap.size w w' ∧ w'.heap[s.2.2.2.2.2.2]? = some (.cells #[.slice none 0 0, .slice none 0 0, .slice none 0 0, .slice none 0 0, .int .i64 0] 28 (0, 0)) ∧ w.heap.size ≤ s.2.2.2.2.2.2) ?_ ?_
  rotate_left
  · intro hCont
    refine two_ (i := 2) (j := 9) (Ni := some 10) (Nj := some 5) #[true, true, true, false, false, false, false, false, false, false, false, false] #[true, true, false, false, false, false, false, false, false, true, false, false] rfl rfl rfl rfl (by kernel_rfl) (by decide) (by decide) (fun K hK => ?_) (fun K hK => ?_)
    · skip
      refine lit1_step (by rfl) (N := 10) rfl (x := rate) (e := 3) (by go_simp <;> rfl) ?_
      intro sb w1 hcc hbl
      have HB1 := Aside0.mk (below_then HB0.out HB0.out.size hbl)
      have HC1 := Aside0.mk hcc
      clear hcc hbl
      refine hK.out _ _ ⟨(blk_cell (blk_below TB.out HB1.out) 0).trans rfl, (blk_cell (blk_below TB.out HB1.out) 1).trans rfl, (blk_cell (blk_below TB.out HB1.out) 2).trans rfl, (blk_cell (blk_below TB.out HB1.out) 3).trans rfl, (blk_cell (blk_below TB.out HB1.out) 4).trans rfl⟩ (fun hHeld => ?_)
      clear hK K
      refine norm_ (a' := ?_) ?_ ?_
      rotate_left
      · show Act.put _ (some 10) _ = _
        simp only [Act.put, List.setIfInBounds_toArray, List.set_cons_zero, List.set_cons_succ, i64_w, i32_w]
        rfl
      refine two_ (i := 3) (j := 9) (Ni := some 11) (Nj := some 5) #[true, true, true, true, false, false, false, false, false, false, false, false] #[true, true, true, false, false, false, false, false, false, true, false, false] rfl rfl rfl rfl (by kernel_rfl) (by decide) (by decide) (fun K hK => ?_) (fun K hK => ?_)
      · skip
        refine goes_ Try.func36 (by kernel_rfl) rfl #[.slice (some ⟨sb, 0, none⟩) 1 1] (by rfl) rfl rfl (by simp only [List.map_toArray, List.map_cons, List.map_nil]; rfl) ?_
        with_reducible refine (newCarrier_one sb rate _ HC1.out HX.out).mono ?_
        rintro e w2 ⟨g, rfl, hcar, hbl⟩
        refine ⟨_, rfl, ?_⟩
        have HB2 := Aside0.mk (below_then HB1.out HB1.out.size hbl)
        have HG2 := Aside0.mk hcar
        clear hcar hbl
        refine hK.out _ _ ⟨(blk_cell (blk_below TB.out HB2.out) 0).trans rfl, (blk_cell (blk_below TB.out HB2.out) 1).trans rfl, (blk_cell (blk_below TB.out HB2.out) 2).trans rfl, (blk_cell (blk_below TB.out HB2.out) 3).trans rfl, (blk_cell (blk_below TB.out HB2.out) 4).trans rfl⟩ (fun hHeld => ?_)
        clear hK K
        refine norm_ (a' := ?_) ?_ ?_
        rotate_left
        · show Act.put _ (some 11) _ = _
          simp only [Act.put, List.setIfInBounds_toArray, List.set_cons_zero, List.set_cons_succ, i64_w, i32_w]
          rfl
        refine pure_ (i := 4) (N := some 12) (v := ?_) (a' := ?_) #[true, true, true, true, true, false, false, false, false, false, false, false] rfl rfl (by kernel_rfl) (fun _ _ _ h => h) (Or.inl ⟨by rfl, ?_⟩) ?_ ?_
        rotate_left
        · intro w'
          go_simp
          with_reducible rfl
        rotate_left
        · simp only [Act.put, List.setIfInBounds_toArray, List.set_cons_zero, List.set_cons_succ, i64_w, i32_w]
          rfl
        refine two_ (i := 5) (j := 9) (Ni := some 13) (Nj := some 5) #[true, true, true, true, true, true, false, false, false, false, false, false] #[true, true, true, true, true, false, false, false, false, true, false, false] rfl rfl rfl rfl (by kernel_rfl) (by decide) (by decide) (fun K hK => ?_) (fun K hK => ?_)
        · skip
          refine goes_ Try.func35 (by kernel_rfl) rfl #[.agg #[.slice A0 l0.length c0, .slice A1 l1.length c1, .int .i64 p, .int .i64 q, .int .i64 r], .func (.func 37) #[.pointer (some ⟨g, 0, none⟩)] #[]] (by rfl) rfl rfl (by simp only [List.map_toArray, List.map_cons, List.map_nil]; rfl) ?_
          with_reducible refine (planner_plan.calls k A0 c0 l0 A1 c1 l1 p q r g (sumsOf [rate]) rate r1 r2 r3 r4 r5 r6 _ (Kd.C_below HR0.out HB2.out) hc0 (Kd.C_below HR1.out HB2.out) hc1 HG2.out HSM.out HUP.out (HP.out g)).mono ?_
          rintro e w3 ⟨v0, v1, v2, v3, rfl, R0, R1, R2, R3, hbl⟩
          refine ⟨_, rfl, ?_⟩
          obtain ⟨B0, d0, rfl⟩ := Kd.R_slice R0
          obtain ⟨B1, d1, rfl⟩ := Kd.R_slice R1
          obtain ⟨B2, d2, rfl⟩ := Kd.R_slice R2
          obtain ⟨B3, d3, rfl⟩ := Kd.R_slice R3
          have HB3 := Aside0.mk (below_then HB2.out HB2.out.size hbl)
          clear hbl R0 R1 R2 R3
          refine hK.out _ _ ⟨(blk_cell (blk_below TB.out HB3.out) 0).trans rfl, (blk_cell (blk_below TB.out HB3.out) 1).trans rfl, (blk_cell (blk_below TB.out HB3.out) 2).trans rfl, (blk_cell (blk_below TB.out HB3.out) 3).trans rfl, (blk_cell (blk_below TB.out HB3.out) 4).trans rfl⟩ (fun hHeld => ?_)
          clear hK K
          refine norm_ (a' := ?_) ?_ ?_
          rotate_left
          · show Act.put _ (some 13) _ = _
            simp only [Act.put, List.setIfInBounds_toArray, List.set_cons_zero, List.set_cons_succ, i64_w, i32_w]
            rfl
          refine pure_ (i := 6) (N := some 7) (v := ?_) (a' := ?_) #[true, true, true, true, true, true, true, false, false, false, false, false] rfl rfl (by kernel_rfl) (fun _ _ _ h => h) (Or.inl ⟨by rfl, ?_⟩) ?_ ?_
          rotate_left
          · intro w'
            go_simp
            with_reducible rfl
          rotate_left
          · simp only [Act.put, List.setIfInBounds_toArray, List.set_cons_zero, List.set_cons_succ, i64_w, i32_w]
            rfl
          refine pure_ (i := 7) (N := some 14) (v := ?_) (a' := ?_) #[true, true, true, true, true, true, true, true, false, false, false, false] rfl rfl (by kernel_rfl) (fun _ _ _ h => h) (Or.inl ⟨by rfl, ?_⟩) ?_ ?_
          rotate_left
          · intro w'
            go_simp
            with_reducible rfl
          rotate_left
          · simp only [Act.put, List.setIfInBounds_toArray, List.set_cons_zero, List.set_cons_succ, i64_w, i32_w]
            rfl
          refine pure_ (i := 8) (N := some 15) (v := ?_) (a' := ?_) #[true, true, true, true, true, true, true, true, true, false, false, false] rfl rfl (by kernel_rfl) (fun _ _ _ h => h) (Or.inl ⟨by rfl, ?_⟩) ?_ ?_
          rotate_left
          · intro w'
            go_simp
            with_reducible rfl
          rotate_left
          · simp only [Act.put, List.setIfInBounds_toArray, List.set_cons_zero, List.set_cons_succ, i64_w, i32_w]
            rfl
          refine one_ (i := 9) (N := some 5) #[true, true, true, true, true, true, true, true, true, true, false, false] rfl rfl (by kernel_rfl) (by decide) (fun K hK => ?_)
          refine box_step (by rfl) (N := 5) rfl (cs := #[.slice none 0 0, .slice none 0 0, .slice none 0 0, .slice none 0 0, .int .i64 0]) (t := 28) (by go_simp <;> rfl) ?_
          intro b hbe w4 hblk hbl
          have HB4 := Aside0.mk (below_then HB3.out HB3.out.size hbl)
          have HZ4 := Aside0.mk hblk
          have HZS := Aside0.mk (show w.heap.size ≤ b from by rw [hbe]; exact HB3.out.size)
          clear hbe hblk hbl
          refine hK.out _ _ ⟨(blk_cell (blk_below TB.out HB4.out) 0).trans rfl, (blk_cell (blk_below TB.out HB4.out) 1).trans rfl, (blk_cell (blk_below TB.out HB4.out) 2).trans rfl, (blk_cell (blk_below TB.out HB4.out) 3).trans rfl, (blk_cell (blk_below TB.out HB4.out) 4).trans rfl⟩ (fun hHeld => ?_)
          clear hK K
          refine norm_ (a' := ?_) ?_ ?_
          rotate_left
          · show Act.put _ (some 5) _ = _
            simp only [Act.put, List.setIfInBounds_toArray, List.set_cons_zero, List.set_cons_succ, i64_w, i32_w]
            rfl
          exact norm_ (by simp only [putAll, Act.put, List.setIfInBounds_toArray, List.set_cons_zero, List.set_cons_succ] <;> rfl) (hCont ((B0, d0), (B1, d1), (B2, d2), (B3, d3), sb, g, b) _ ⟨HB4.out, HZ4.out, HZS.out⟩)
        · skip
          refine box_step (by rfl) (N := 5) rfl (cs := #[.slice none 0 0, .slice none 0 0, .slice none 0 0, .slice none 0 0, .int .i64 0]) (t := 28) (by go_simp <;> rfl) ?_
          intro b hbe w3 hblk hbl
          have HB3 := Aside0.mk (below_then HB2.out HB2.out.size hbl)
          have HZ3 := Aside0.mk hblk
          have HZS := Aside0.mk (show w.heap.size ≤ b from by rw [hbe]; exact HB2.out.size)
          have HG3 := Aside0.mk (HG2.out.below hbl)
          clear hbe hblk hbl
          refine hK.out _ _ ⟨(blk_cell (blk_below TB.out HB3.out) 0).trans rfl, (blk_cell (blk_below TB.out HB3.out) 1).trans rfl, (blk_cell (blk_below TB.out HB3.out) 2).trans rfl, (blk_cell (blk_below TB.out HB3.out) 3).trans rfl, (blk_cell (blk_below TB.out HB3.out) 4).trans rfl⟩ (fun hHeld => ?_)
          clear hK K
          refine norm_ (a' := ?_) ?_ ?_
          rotate_left
          · show Act.put _ (some 5) _ = _
            simp only [Act.put, List.setIfInBounds_toArray, List.set_cons_zero, List.set_cons_succ, i64_w, i32_w]
            rfl
          refine one_ (i := 5) (N := some 13) #[true, true, true, true, true, true, false, false, false, true, false, false] rfl rfl (by kernel_rfl) (by decide) (fun K hK => ?_)
          refine goes_ Try.func35 (by kernel_rfl) rfl #[.agg #[.slice A0 l0.length c0, .slice A1 l1.length c1, .int .i64 p, .int .i64 q, .int .i64 r], .func (.func 37) #[.pointer (some ⟨g, 0, none⟩)] #[]] (by rfl) rfl rfl (by simp only [List.map_toArray, List.map_cons, List.map_nil]; rfl) ?_
          with_reducible refine (planner_plan.calls k A0 c0 l0 A1 c1 l1 p q r g (sumsOf [rate]) rate r1 r2 r3 r4 r5 r6 _ (Kd.C_below HR0.out HB3.out) hc0 (Kd.C_below HR1.out HB3.out) hc1 HG3.out HSM.out HUP.out (HP.out g)).mono ?_
          rintro e w4 ⟨v0, v1, v2, v3, rfl, R0, R1, R2, R3, hbl⟩
          refine ⟨_, rfl, ?_⟩
          obtain ⟨B0, d0, rfl⟩ := Kd.R_slice R0
          obtain ⟨B1, d1, rfl⟩ := Kd.R_slice R1
          obtain ⟨B2, d2, rfl⟩ := Kd.R_slice R2
          obtain ⟨B3, d3, rfl⟩ := Kd.R_slice R3
          have HB4 := Aside0.mk (below_then HB3.out HB3.out.size hbl)
          have HZ4 := Aside0.mk (blk_below HZ3.out hbl)
          clear hbl R0 R1 R2 R3
          refine hK.out _ _ ⟨(blk_cell (blk_below TB.out HB4.out) 0).trans rfl, (blk_cell (blk_below TB.out HB4.out) 1).trans rfl, (blk_cell (blk_below TB.out HB4.out) 2).trans rfl, (blk_cell (blk_below TB.out HB4.out) 3).trans rfl, (blk_cell (blk_below TB.out HB4.out) 4).trans rfl⟩ (fun hHeld => ?_)
          clear hK K
          refine norm_ (a' := ?_) ?_ ?_
          rotate_left
          · show Act.put _ (some 13) _ = _
            simp only [Act.put, List.setIfInBounds_toArray, List.set_cons_zero, List.set_cons_succ, i64_w, i32_w]
            rfl
          refine pure_ (i := 6) (N := some 7) (v := ?_) (a' := ?_) #[true, true, true, true, true, true, true, false, false, true, false, false] rfl rfl (by kernel_rfl) (fun _ _ _ h => h) (Or.inl ⟨by rfl, ?_⟩) ?_ ?_
          rotate_left
          · intro w'
            go_simp
            with_reducible rfl
          rotate_left
          · simp only [Act.put, List.setIfInBounds_toArray, List.set_cons_zero, List.set_cons_succ, i64_w, i32_w]
            rfl
          refine pure_ (i := 7) (N := some 14) (v := ?_) (a' := ?_) #[true, true, true, true, true, true, true, true, false, true, false, false] rfl rfl (by kernel_rfl) (fun _ _ _ h => h) (Or.inl ⟨by rfl, ?_⟩) ?_ ?_
          rotate_left
          · intro w'
            go_simp
            with_reducible rfl
          rotate_left
          · simp only [Act.put, List.setIfInBounds_toArray, List.set_cons_zero, List.set_cons_succ, i64_w, i32_w]
            rfl
          refine pure_ (i := 8) (N := some 15) (v := ?_) (a' := ?_) #[true, true, true, true, true, true, true, true, true, true, false, false] rfl rfl (by kernel_rfl) (fun _ _ _ h => h) (Or.inl ⟨by rfl, ?_⟩) ?_ ?_
          rotate_left
          · intro w'
            go_simp
            with_reducible rfl
          rotate_left
          · simp only [Act.put, List.setIfInBounds_toArray, List.set_cons_zero, List.set_cons_succ, i64_w, i32_w]
            rfl
          exact norm_ (by simp only [putAll, Act.put, List.setIfInBounds_toArray, List.set_cons_zero, List.set_cons_succ] <;> rfl) (hCont ((B0, d0), (B1, d1), (B2, d2), (B3, d3), sb, g, b) _ ⟨HB4.out, HZ4.out, HZS.out⟩)
      · skip
        refine box_step (by rfl) (N := 5) rfl (cs := #[.slice none 0 0, .slice none 0 0, .slice none 0 0, .slice none 0 0, .int .i64 0]) (t := 28) (by go_simp <;> rfl) ?_
        intro b hbe w2 hblk hbl
        have HB2 := Aside0.mk (below_then HB1.out HB1.out.size hbl)
        have HZ2 := Aside0.mk hblk
        have HZS := Aside0.mk (show w.heap.size ≤ b from by rw [hbe]; exact HB1.out.size)
        have HC2 := Aside0.mk (Kd.C_below HC1.out hbl)
        clear hbe hblk hbl
        refine hK.out _ _ ⟨(blk_cell (blk_below TB.out HB2.out) 0).trans rfl, (blk_cell (blk_below TB.out HB2.out) 1).trans rfl, (blk_cell (blk_below TB.out HB2.out) 2).trans rfl, (blk_cell (blk_below TB.out HB2.out) 3).trans rfl, (blk_cell (blk_below TB.out HB2.out) 4).trans rfl⟩ (fun hHeld => ?_)
        clear hK K
        refine norm_ (a' := ?_) ?_ ?_
        rotate_left
        · show Act.put _ (some 5) _ = _
          simp only [Act.put, List.setIfInBounds_toArray, List.set_cons_zero, List.set_cons_succ, i64_w, i32_w]
          rfl
        refine one_ (i := 3) (N := some 11) #[true, true, true, true, false, false, false, false, false, true, false, false] rfl rfl (by kernel_rfl) (by decide) (fun K hK => ?_)
        refine goes_ Try.func36 (by kernel_rfl) rfl #[.slice (some ⟨sb, 0, none⟩) 1 1] (by rfl) rfl rfl (by simp only [List.map_toArray, List.map_cons, List.map_nil]; rfl) ?_
        with_reducible refine (newCarrier_one sb rate _ HC2.out HX.out).mono ?_
        rintro e w3 ⟨g, rfl, hcar, hbl⟩
        refine ⟨_, rfl, ?_⟩
        have HB3 := Aside0.mk (below_then HB2.out HB2.out.size hbl)
        have HZ3 := Aside0.mk (blk_below HZ2.out hbl)
        have HG3 := Aside0.mk hcar
        clear hcar hbl
        refine hK.out _ _ ⟨(blk_cell (blk_below TB.out HB3.out) 0).trans rfl, (blk_cell (blk_below TB.out HB3.out) 1).trans rfl, (blk_cell (blk_below TB.out HB3.out) 2).trans rfl, (blk_cell (blk_below TB.out HB3.out) 3).trans rfl, (blk_cell (blk_below TB.out HB3.out) 4).trans rfl⟩ (fun hHeld => ?_)
        clear hK K
        refine norm_ (a' := ?_) ?_ ?_
        rotate_left
        · show Act.put _ (some 11) _ = _
          simp only [Act.put, List.setIfInBounds_toArray, List.set_cons_zero, List.set_cons_succ, i64_w, i32_w]
          rfl
        refine pure_ (i := 4) (N := some 12) (v := ?_) (a' := ?_) #[true, true, true, true, true, false, false, false, false, true, false, false] rfl rfl (by kernel_rfl) (fun _ _ _ h => h) (Or.inl ⟨by rfl, ?_⟩) ?_ ?_
        rotate_left
        · intro w'
          go_simp
          with_reducible rfl
        rotate_left
        · simp only [Act.put, List.setIfInBounds_toArray, List.set_cons_zero, List.set_cons_succ, i64_w, i32_w]
          rfl
        refine one_ (i := 5) (N := some 13) #[true, true, true, true, true, true, false, false, false, true, false, false] rfl rfl (by kernel_rfl) (by decide) (fun K hK => ?_)
        refine goes_ Try.func35 (by kernel_rfl) rfl #[.agg #[.slice A0 l0.length c0, .slice A1 l1.length c1, .int .i64 p, .int .i64 q, .int .i64 r], .func (.func 37) #[.pointer (some ⟨g, 0, none⟩)] #[]] (by rfl) rfl rfl (by simp only [List.map_toArray, List.map_cons, List.map_nil]; rfl) ?_
        with_reducible refine (planner_plan.calls k A0 c0 l0 A1 c1 l1 p q r g (sumsOf [rate]) rate r1 r2 r3 r4 r5 r6 _ (Kd.C_below HR0.out HB3.out) hc0 (Kd.C_below HR1.out HB3.out) hc1 HG3.out HSM.out HUP.out (HP.out g)).mono ?_
        rintro e w4 ⟨v0, v1, v2, v3, rfl, R0, R1, R2, R3, hbl⟩
        refine ⟨_, rfl, ?_⟩
        obtain ⟨B0, d0, rfl⟩ := Kd.R_slice R0
        obtain ⟨B1, d1, rfl⟩ := Kd.R_slice R1
        obtain ⟨B2, d2, rfl⟩ := Kd.R_slice R2
        obtain ⟨B3, d3, rfl⟩ := Kd.R_slice R3
        have HB4 := Aside0.mk (below_then HB3.out HB3.out.size hbl)
        have HZ4 := Aside0.mk (blk_below HZ3.out hbl)
        clear hbl R0 R1 R2 R3
        refine hK.out _ _ ⟨(blk_cell (blk_below TB.out HB4.out) 0).trans rfl, (blk_cell (blk_below TB.out HB4.out) 1).trans rfl, (blk_cell (blk_below TB.out HB4.out) 2).trans rfl, (blk_cell (blk_below TB.out HB4.out) 3).trans rfl, (blk_cell (blk_below TB.out HB4.out) 4).trans rfl⟩ (fun hHeld => ?_)
        clear hK K
        refine norm_ (a' := ?_) ?_ ?_
        rotate_left
        · show Act.put _ (some 13) _ = _
          simp only [Act.put, List.setIfInBounds_toArray, List.set_cons_zero, List.set_cons_succ, i64_w, i32_w]
          rfl
        refine pure_ (i := 6) (N := some 7) (v := ?_) (a' := ?_) #[true, true, true, true, true, true, true, false, false, true, false, false] rfl rfl (by kernel_rfl) (fun _ _ _ h => h) (Or.inl ⟨by rfl, ?_⟩) ?_ ?_
        rotate_left
        · intro w'
          go_simp
          with_reducible rfl
        rotate_left
        · simp only [Act.put, List.setIfInBounds_toArray, List.set_cons_zero, List.set_cons_succ, i64_w, i32_w]
          rfl
        refine pure_ (i := 7) (N := some 14) (v := ?_) (a' := ?_) #[true, true, true, true, true, true, true, true, false, true, false, false] rfl rfl (by kernel_rfl) (fun _ _ _ h => h) (Or.inl ⟨by rfl, ?_⟩) ?_ ?_
        rotate_left
        · intro w'
          go_simp
          with_reducible rfl
        rotate_left
        · simp only [Act.put, List.setIfInBounds_toArray, List.set_cons_zero, List.set_cons_succ, i64_w, i32_w]
          rfl
        refine pure_ (i := 8) (N := some 15) (v := ?_) (a' := ?_) #[true, true, true, true, true, true, true, true, true, true, false, false] rfl rfl (by kernel_rfl) (fun _ _ _ h => h) (Or.inl ⟨by rfl, ?_⟩) ?_ ?_
        rotate_left
        · intro w'
          go_simp
          with_reducible rfl
        rotate_left
        · simp only [Act.put, List.setIfInBounds_toArray, List.set_cons_zero, List.set_cons_succ, i64_w, i32_w]
          rfl
        exact norm_ (by simp only [putAll, Act.put, List.setIfInBounds_toArray, List.set_cons_zero, List.set_cons_succ] <;> rfl) (hCont ((B0, d0), (B1, d1), (B2, d2), (B3, d3), sb, g, b) _ ⟨HB4.out, HZ4.out, HZS.out⟩)
    · skip
      refine box_step (by rfl) (N := 5) rfl (cs := #[.slice none 0 0, .slice none 0 0, .slice none 0 0, .slice none 0 0, .int .i64 0]) (t := 28) (by go_simp <;> rfl) ?_
      intro b hbe w1 hblk hbl
      have HB1 := Aside0.mk (below_then HB0.out HB0.out.size hbl)
      have HZ1 := Aside0.mk hblk
      have HZS := Aside0.mk (show w.heap.size ≤ b from by rw [hbe]; exact HB0.out.size)
      clear hbe hblk hbl
      refine hK.out _ _ ⟨(blk_cell (blk_below TB.out HB1.out) 0).trans rfl, (blk_cell (blk_below TB.out HB1.out) 1).trans rfl, (blk_cell (blk_below TB.out HB1.out) 2).trans rfl, (blk_cell (blk_below TB.out HB1.out) 3).trans rfl, (blk_cell (blk_below TB.out HB1.out) 4).trans rfl⟩ (fun hHeld => ?_)
      clear hK K
      refine norm_ (a' := ?_) ?_ ?_
      rotate_left
      · show Act.put _ (some 5) _ = _
        simp only [Act.put, List.setIfInBounds_toArray, List.set_cons_zero, List.set_cons_succ, i64_w, i32_w]
        rfl
      refine one_ (i := 2) (N := some 10) #[true, true, true, false, false, false, false, false, false, true, false, false] rfl rfl (by kernel_rfl) (by decide) (fun K hK => ?_)
      refine lit1_step (by rfl) (N := 10) rfl (x := rate) (e := 3) (by go_simp <;> rfl) ?_
      intro sb w2 hcc hbl
      have HB2 := Aside0.mk (below_then HB1.out HB1.out.size hbl)
      have HZ2 := Aside0.mk (blk_below HZ1.out hbl)
      have HC2 := Aside0.mk hcc
      clear hcc hbl
      refine hK.out _ _ ⟨(blk_cell (blk_below TB.out HB2.out) 0).trans rfl, (blk_cell (blk_below TB.out HB2.out) 1).trans rfl, (blk_cell (blk_below TB.out HB2.out) 2).trans rfl, (blk_cell (blk_below TB.out HB2.out) 3).trans rfl, (blk_cell (blk_below TB.out HB2.out) 4).trans rfl⟩ (fun hHeld => ?_)
      clear hK K
      refine norm_ (a' := ?_) ?_ ?_
      rotate_left
      · show Act.put _ (some 10) _ = _
        simp only [Act.put, List.setIfInBounds_toArray, List.set_cons_zero, List.set_cons_succ, i64_w, i32_w]
        rfl
      refine one_ (i := 3) (N := some 11) #[true, true, true, true, false, false, false, false, false, true, false, false] rfl rfl (by kernel_rfl) (by decide) (fun K hK => ?_)
      refine goes_ Try.func36 (by kernel_rfl) rfl #[.slice (some ⟨sb, 0, none⟩) 1 1] (by rfl) rfl rfl (by simp only [List.map_toArray, List.map_cons, List.map_nil]; rfl) ?_
      with_reducible refine (newCarrier_one sb rate _ HC2.out HX.out).mono ?_
      rintro e w3 ⟨g, rfl, hcar, hbl⟩
      refine ⟨_, rfl, ?_⟩
      have HB3 := Aside0.mk (below_then HB2.out HB2.out.size hbl)
      have HZ3 := Aside0.mk (blk_below HZ2.out hbl)
      have HG3 := Aside0.mk hcar
      clear hcar hbl
      refine hK.out _ _ ⟨(blk_cell (blk_below TB.out HB3.out) 0).trans rfl, (blk_cell (blk_below TB.out HB3.out) 1).trans rfl, (blk_cell (blk_below TB.out HB3.out) 2).trans rfl, (blk_cell (blk_below TB.out HB3.out) 3).trans rfl, (blk_cell (blk_below TB.out HB3.out) 4).trans rfl⟩ (fun hHeld => ?_)
      clear hK K
      refine norm_ (a' := ?_) ?_ ?_
      rotate_left
      · show Act.put _ (some 11) _ = _
        simp only [Act.put, List.setIfInBounds_toArray, List.set_cons_zero, List.set_cons_succ, i64_w, i32_w]
        rfl
      refine pure_ (i := 4) (N := some 12) (v := ?_) (a' := ?_) #[true, true, true, true, true, false, false, false, false, true, false, false] rfl rfl (by kernel_rfl) (fun _ _ _ h => h) (Or.inl ⟨by rfl, ?_⟩) ?_ ?_
      rotate_left
      · intro w'
        go_simp
        with_reducible rfl
      rotate_left
      · simp only [Act.put, List.setIfInBounds_toArray, List.set_cons_zero, List.set_cons_succ, i64_w, i32_w]
        rfl
      refine one_ (i := 5) (N := some 13) #[true, true, true, true, true, true, false, false, false, true, false, false] rfl rfl (by kernel_rfl) (by decide) (fun K hK => ?_)
      refine goes_ Try.func35 (by kernel_rfl) rfl #[.agg #[.slice A0 l0.length c0, .slice A1 l1.length c1, .int .i64 p, .int .i64 q, .int .i64 r], .func (.func 37) #[.pointer (some ⟨g, 0, none⟩)] #[]] (by rfl) rfl rfl (by simp only [List.map_toArray, List.map_cons, List.map_nil]; rfl) ?_
      with_reducible refine (planner_plan.calls k A0 c0 l0 A1 c1 l1 p q r g (sumsOf [rate]) rate r1 r2 r3 r4 r5 r6 _ (Kd.C_below HR0.out HB3.out) hc0 (Kd.C_below HR1.out HB3.out) hc1 HG3.out HSM.out HUP.out (HP.out g)).mono ?_
      rintro e w4 ⟨v0, v1, v2, v3, rfl, R0, R1, R2, R3, hbl⟩
      refine ⟨_, rfl, ?_⟩
      obtain ⟨B0, d0, rfl⟩ := Kd.R_slice R0
      obtain ⟨B1, d1, rfl⟩ := Kd.R_slice R1
      obtain ⟨B2, d2, rfl⟩ := Kd.R_slice R2
      obtain ⟨B3, d3, rfl⟩ := Kd.R_slice R3
      have HB4 := Aside0.mk (below_then HB3.out HB3.out.size hbl)
      have HZ4 := Aside0.mk (blk_below HZ3.out hbl)
      clear hbl R0 R1 R2 R3
      refine hK.out _ _ ⟨(blk_cell (blk_below TB.out HB4.out) 0).trans rfl, (blk_cell (blk_below TB.out HB4.out) 1).trans rfl, (blk_cell (blk_below TB.out HB4.out) 2).trans rfl, (blk_cell (blk_below TB.out HB4.out) 3).trans rfl, (blk_cell (blk_below TB.out HB4.out) 4).trans rfl⟩ (fun hHeld => ?_)
      clear hK K
      refine norm_ (a' := ?_) ?_ ?_
      rotate_left
      · show Act.put _ (some 13) _ = _
        simp only [Act.put, List.setIfInBounds_toArray, List.set_cons_zero, List.set_cons_succ, i64_w, i32_w]
        rfl
      refine pure_ (i := 6) (N := some 7) (v := ?_) (a' := ?_) #[true, true, true, true, true, true, true, false, false, true, false, false] rfl rfl (by kernel_rfl) (fun _ _ _ h => h) (Or.inl ⟨by rfl, ?_⟩) ?_ ?_
      rotate_left
      · intro w'
        go_simp
        with_reducible rfl
      rotate_left
      · simp only [Act.put, List.setIfInBounds_toArray, List.set_cons_zero, List.set_cons_succ, i64_w, i32_w]
        rfl
      refine pure_ (i := 7) (N := some 14) (v := ?_) (a' := ?_) #[true, true, true, true, true, true, true, true, false, true, false, false] rfl rfl (by kernel_rfl) (fun _ _ _ h => h) (Or.inl ⟨by rfl, ?_⟩) ?_ ?_
      rotate_left
      · intro w'
        go_simp
        with_reducible rfl
      rotate_left
      · simp only [Act.put, List.setIfInBounds_toArray, List.set_cons_zero, List.set_cons_succ, i64_w, i32_w]
        rfl
      refine pure_ (i := 8) (N := some 15) (v := ?_) (a' := ?_) #[true, true, true, true, true, true, true, true, true, true, false, false] rfl rfl (by kernel_rfl) (fun _ _ _ h => h) (Or.inl ⟨by rfl, ?_⟩) ?_ ?_
      rotate_left
      · intro w'
        go_simp
        with_reducible rfl
      rotate_left
      · simp only [Act.put, List.setIfInBounds_toArray, List.set_cons_zero, List.set_cons_succ, i64_w, i32_w]
        rfl
      exact norm_ (by simp only [putAll, Act.put, List.setIfInBounds_toArray, List.set_cons_zero, List.set_cons_succ] <;> rfl) (hCont ((B0, d0), (B1, d1), (B2, d2), (B3, d3), sb, g, b) _ ⟨HB4.out, HZ4.out, HZS.out⟩)
  rintro ⟨⟨B0, d0⟩, ⟨B1, d1⟩, ⟨B2, d2⟩, ⟨B3, d3⟩, sb, g, b⟩ w5 ⟨hB, hZ, hS⟩
  simp only at hZ hS
  have HB5 := Aside0.mk hB
  have HZ5 := Aside0.mk hZ
  have HZS := Aside0.mk hS
  have x0 := (blk_cell hZ 0).trans rfl
  have x1 := (blk_cell hZ 1).trans rfl
  have x2 := (blk_cell hZ 2).trans rfl
  have x3 := (blk_cell hZ 3).trans rfl
  have x4 := (blk_cell hZ 4).trans rfl
  have y0 := blk_frozen hZ 0
  have y1 := blk_frozen hZ 1
  have y2 := blk_frozen hZ 2
  have y3 := blk_frozen hZ 3
  have y4 := blk_frozen hZ 4
  clear hB hZ hS
  have hHeld : w5.cell? ⟨tb, 0, none⟩ = some (.slice A0 l0.length c0) ∧ w5.cell? ⟨tb, 1, none⟩ = some (.slice A1 l1.length c1) ∧ w5.cell? ⟨tb, 2, none⟩ = some (.int .i64 p) ∧ w5.cell? ⟨tb, 3, none⟩ = some (.int .i64 q) ∧ w5.cell? ⟨tb, 4, none⟩ = some (.int .i64 r) := ⟨(blk_cell (blk_below TB.out HB5.out) 0).trans rfl, (blk_cell (blk_below TB.out HB5.out) 1).trans rfl, (blk_cell (blk_below TB.out HB5.out) 2).trans rfl, (blk_cell (blk_below TB.out HB5.out) 3).trans rfl, (blk_cell (blk_below TB.out HB5.out) 4).trans rfl⟩
  refine norm_ (a' := ?_) ?_ ?_
  rotate_left
  · simp only [putAll, Act.put, List.setIfInBounds_toArray, List.set_cons_zero, List.set_cons_succ]
    rfl
  refine last_ (i := 10) (N := none) #[true, true, true, true, true, true, true, true, true, true, true, false] rfl rfl (by kernel_rfl) (by decide) (fun K hK => ?_)
  refine skip_ (w1 := ?_) (by rfl) rfl ?_ ?_
  rotate_left
  · go_simp
    rfl
  refine hK.out _ _ ?_
  clear hK K
  refine pure_ (i := 11) (N := some 6) (v := ?_) (a' := ?_) #[true, true, true, true, true, true, true, true, true, true, true, true] rfl rfl (by kernel_rfl) (fun _ _ _ h => h) (Or.inl ⟨by rfl, ?_⟩) ?_ ?_
  rotate_left
  · intro w'
    go_simp
    with_reducible rfl
  rotate_left
  · simp only [Act.put, List.setIfInBounds_toArray, List.set_cons_zero, List.set_cons_succ, i64_w, i32_w]
    rfl
  refine done_ (by kernel_rfl) ?_

  clear x0 x1 x2 x3 x4 y0 y1 y2 y3 y4 t0 t1 t2 t3 t4 hHeld
  refine name_then ?_
  intro W6 hW6
  have z4 : W6.cell? ⟨b, 4, none⟩ = some (.int .i64 r5) := by rw [← hW6.out]; exact (blk_cell (blk_five HZ5.out _ _ _ _ _) 4).trans rfl
  have HB6 := Aside0.mk (show Below w.heap.size w W6 from by rw [← hW6.out]; exact below_five HB5.out HZS.out _ _ _ _ _)
  have zo : W6.cell? ⟨ob, 0, none⟩ = some (.int .i64 obj) := (blk_cell (blk_below OB.out HB6.out) 0).trans rfl
  clear hW6 HZ5 HB5
  by_cases h6 : r6 = 0
  · subst h6
    by_cases h5 : r5 ≤ obj
    · have e5 := decide_eq_true h5
      have HE : Aside0 (decide ((0 : Int) = 0 ∧ r5 ≤ obj) = true) := ⟨decide_eq_true ⟨rfl, h5⟩⟩
      clear h5
      go_wp2
      go_ret
      exact ⟨by first | rfl | (rw [HE.out]; rfl), HB6.out⟩
    · have e5 := decide_eq_false h5
      have HE : Aside0 (decide ((0 : Int) = 0 ∧ r5 ≤ obj) = false) := ⟨decide_eq_false (fun h => h5 h.2)⟩
      clear h5
      go_wp2
      go_ret
      exact ⟨by first | rfl | (rw [HE.out]; rfl), HB6.out⟩
  · have e6 : (r6 == 0) = false := by simpa using h6
    have HE : Aside0 (decide (r6 = 0 ∧ r5 ≤ obj) = false) := ⟨decide_eq_false (fun h => h6 h.1)⟩
    clear h6
    go_wp2
    go_ret
    exact ⟨by first | rfl | (rw [HE.out]; rfl), HB6.out⟩
end Go.Proofs.Ytcflacjidabppaa.Pr

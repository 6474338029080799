/- planner.Plan. -/
import Derived.Test.YtcflacjidabppaaGNewCar
import Derived.Test.YtcflacjidabppaaF35
import Derived.Test.YtcflacjidabppaaF15
namespace Go.Proofs.Ytcflacjidabppaa.Pr
open Go.RowKit Go.Proofs.YtcflacjidabppaaW.PrintWords Go.Proofs.YtcflacjidabppaaW.PrintLast Go.Proofs.YtcflacjidabppaaW.PrintMore
set_option linter.unusedVariables false
set_option linter.unusedSimpArgs false
attribute [local go_sem] max2_int min2_int max_two min_two max_three min_three max_four min_four

theorem sectors_true {l : List Int} (h : planner_sectors.f l = some true) : ∀ x ∈ l, 0 ≤ x ∧ x ≤ 4096 := by
  unfold planner_sectors.f at h
  have h1 := Option.some.inj h
  simp only [Bool.not_eq_true', List.any_eq_false] at h1
  intro x hx
  have := h1 x hx
  simp at this
  omega
theorem between_true {a b c : Int} (h : planner_between.f a b c = some true) : b ≤ a ∧ a ≤ c := by
  unfold planner_between.f at h
  split at h
  · exact ⟨by omega, by simpa using h⟩
  · cases h

/-- What a trace in order has. -/
theorem check_ok {k : Nat} {W C : List Int} {p q r : Int} (h : planner_Check.f k W C p q r = some 0) :
    W.length ≤ 4096 ∧ 1 ≤ C.length ∧ C.length ≤ 4096 ∧ (∀ x ∈ W, 0 ≤ x ∧ x ≤ 4096) ∧ (∀ x ∈ C, 0 ≤ x ∧ x ≤ 4096) ∧ (1 ≤ p ∧ p ≤ 4096) ∧ (0 ≤ q ∧ q ≤ 1073741824) ∧ (0 ≤ r ∧ r ≤ 1073741824) := by
  unfold planner_Check.f at h
  have key : ∀ b, planner_Check.j0 k b W C p q r = some 0 → b = false ∧ (∀ x ∈ W, 0 ≤ x ∧ x ≤ 4096) ∧ (∀ x ∈ C, 0 ≤ x ∧ x ≤ 4096) ∧ (1 ≤ p ∧ p ≤ 4096) ∧ (0 ≤ q ∧ q ≤ 1073741824) ∧ (0 ≤ r ∧ r ≤ 1073741824) := by
    intro b h
    cases k with
    | zero => simp [planner_Check.j0] at h
    | succ k =>
      simp only [planner_Check.j0] at h
      cases b with
      | true => simp at h
      | false =>
        simp only [Bool.false_eq_true, if_false, Option.bind_eq_some_iff] at h
        obtain ⟨b1, e1, h⟩ := h
        cases b1 with
        | false => simp at h
        | true =>
          simp only [if_true, Option.bind_eq_some_iff] at h
          obtain ⟨b2, e2, h⟩ := h
          cases b2 with
          | false => simp at h
          | true =>
            simp only [if_true, Option.bind_eq_some_iff] at h
            obtain ⟨b3, e3, h⟩ := h
            cases b3 with
            | false => simp at h
            | true =>
              simp only [if_true, Option.bind_eq_some_iff] at h
              obtain ⟨b4, e4, h⟩ := h
              cases b4 with
              | false => simp at h
              | true =>
                simp only [if_true, Option.bind_eq_some_iff] at h
                obtain ⟨b5, e5, h⟩ := h
                cases b5 with
                | false => simp at h
                | true => exact ⟨rfl, sectors_true e1, sectors_true e2, between_true e3, between_true e4, between_true e5⟩
  split at h
  · obtain ⟨h1, _⟩ := key _ h
    cases h1
  · rename_i hl
    simp only [Option.bind_eq_some_iff] at h
    obtain ⟨b, e, h⟩ := h
    obtain ⟨h1, h2⟩ := key _ h
    have hb : b = true := by simpa using h1
    subst hb
    have := between_true e
    exact ⟨by omega, by omega, by omega, h2⟩

theorem sums_small {C : List Int} (h1 : 1 ≤ C.length) (h2 : C.length ≤ 4096) (hC : ∀ x ∈ C, 0 ≤ x ∧ x ≤ 4096) : Small (sumsOf C) (rd C ((C.length : Int) - 1)) := by
  refine ⟨by rw [sumsOf_len]; omega, by rw [sumsOf_len]; omega, fun x hx => ?_, ?_⟩
  · unfold sumsOf at hx
    rw [List.mem_map] at hx
    obtain ⟨i, hi, rfl⟩ := hx
    have := sumB (C.take i) (fun y hy => hC y (List.mem_of_mem_take hy))
    have h3 : (C.take i).length ≤ 4096 := by rw [List.length_take]; omega
    omega
  · exact hC _ (rd_mem C _ (by omega) (by omega))
theorem sums_up {C : List Int} (hC : ∀ x ∈ C, 0 ≤ x ∧ x ≤ 4096) : Up (sumsOf C) := by
  intro i j h0 h1 h2
  rw [sumsOf_len] at h2
  obtain ⟨a, rfl⟩ := Int.eq_ofNat_of_zero_le h0
  obtain ⟨b, rfl⟩ := Int.eq_ofNat_of_zero_le (show 0 ≤ j by omega)
  show rd (sumsOf C) (a : Int) ≤ rd (sumsOf C) (b : Int)
  have ha : a ≤ b := by have : ((a : Nat) : Int) ≤ ((b : Nat) : Int) := h1; omega
  have hb : b ≤ C.length := by have : ((b : Nat) : Int) < ((C.length + 1 : Nat) : Int) := h2; omega
  rw [sumsOf_rd C a (by omega), sumsOf_rd C b hb]
  obtain ⟨d, rfl⟩ : ∃ d, b = a + d := ⟨b - a, by omega⟩
  rw [List.take_add, List.sum_append]
  have := sumB ((C.drop a).take d) (fun y hy => hC y (List.mem_of_mem_drop (List.mem_of_mem_take hy)))
  omega

theorem R_old {α : Type} {d : Kd α} {e : Nat} {w : World} {base : Nat} {ok : Nat → Prop} {v : Value} {xs : List α} (h : d.R e w base ok v xs) {B : Nat} (hB : B < base) (j : Nat) (u : Value) : d.R e (w.setCell ⟨B, j, none⟩ u) base ok v xs :=
  Kd.R_mono (ok := fun k => ok k ∧ k ≠ B) (Kd.R_far (p := ⟨B, j, none⟩) (Kd.R_mono (Kd.R_bound h) (fun k hk => ⟨hk.1, by have := hk.2.1; omega⟩)) (fun _ hk => hk.2) u) (fun _ hk => hk.1)
theorem R_five {α : Type} {d : Kd α} {e : Nat} {w : World} {base b0 : Nat} {ok : Nat → Prop} {v : Value} {xs : List α} (h : d.R e w base ok v xs) {B : Nat} (hB : B < base) (hb : b0 ≤ base) (u0 u1 u2 u3 u4 : Value) :
    d.R e (((((w.setCell ⟨B, 0, none⟩ u0).setCell ⟨B, 1, none⟩ u1).setCell ⟨B, 2, none⟩ u2).setCell ⟨B, 3, none⟩ u3).setCell ⟨B, 4, none⟩ u4) b0 ok v xs :=
  Kd.R_lower (R_old (R_old (R_old (R_old (R_old h hB 0 u0) hB 1 u1) hB 2 u2) hB 3 u3) hB 4 u4) hb
theorem below_five {w W : World} {B : Nat} (h : Below w.heap.size w W) (hB : w.heap.size ≤ B) (u0 u1 u2 u3 u4 : Value) :
    Below w.heap.size w (((((W.setCell ⟨B, 0, none⟩ u0).setCell ⟨B, 1, none⟩ u1).setCell ⟨B, 2, none⟩ u2).setCell ⟨B, 3, none⟩ u3).setCell ⟨B, 4, none⟩ u4) :=
  ((((h.setCell (p := ⟨B, 0, none⟩) hB u0).setCell (p := ⟨B, 1, none⟩) hB u1).setCell (p := ⟨B, 2, none⟩) hB u2).setCell (p := ⟨B, 3, none⟩) hB u3).setCell (p := ⟨B, 4, none⟩) hB u4
theorem blk_five {W : World} {B t : Nat} {z0 z1 z2 z3 z4 : Value} (h : W.heap[B]? = some (.cells #[z0, z1, z2, z3, z4] t (0, 0))) (u0 u1 u2 u3 u4 : Value) :
    (((((W.setCell ⟨B, 0, none⟩ u0).setCell ⟨B, 1, none⟩ u1).setCell ⟨B, 2, none⟩ u2).setCell ⟨B, 3, none⟩ u3).setCell ⟨B, 4, none⟩ u4).heap[B]? = some (.cells #[u0, u1, u2, u3, u4] t (0, 0)) :=
  blk_put (blk_put (blk_put (blk_put (blk_put h 0 u0 rfl) 1 u1 rfl) 2 u2 rfl) 3 u3 rfl) 4 u4 rfl

def planner_Plan.f (k : Nat) (l0_0 : List Int) (l0_1 : List Int) (a0_2 : Int) (a0_3 : Int) (a0_4 : Int) : Option (List Int × List Int × List Int × List Int × Int × Int) :=
  (planner_Check.f k l0_0 l0_1 a0_2 a0_3 a0_4).bind fun t => if t = 0 then planner_plan.f k l0_0 l0_1 a0_2 a0_3 a0_4 0 (sumsOf l0_1) (rd l0_1 ((l0_1.length : Int) - 1)) else some ([], [], [], [], 0, t)
theorem planner_Plan.mono : ∀ a0 a1 a2 a3 a4 k, LeO (planner_Plan.f k a0 a1 a2 a3 a4) (planner_Plan.f (k + 1) a0 a1 a2 a3 a4) := by
  intro a0 a1 a2 a3 a4 k
  unfold planner_Plan.f
  refine LeO.bind (planner_Check.mono _ _ _ _ _ _) (fun t => ?_)
  refine LeO.ite ?_ (LeO.refl _)
  exact planner_plan.mono _ _ _ _ _ _ _ _ _

set_option maxHeartbeats 4000000 in
set_option maxRecDepth 100000 in
theorem planner_Plan.calls (k : Nat) (A0_0 : Option Addr) (c0_0 : Nat) (l0_0 : List Int) (A0_1 : Option Addr) (c0_1 : Nat) (l0_1 : List Int) (a0_2 : Int) (a0_3 : Int) (a0_4 : Int) (r1 : List Int) (r2 : List Int) (r3 : List Int) (r4 : List Int) (r5 : Int) (r6 : Int) (w : World) (hr0_0 : Kd.C (Kd.int .i64) w A0_0 l0_0.length l0_0) (hc0_0 : l0_0.length ≤ c0_0) (hr0_1 : Kd.C (Kd.int .i64) w A0_1 l0_1.length l0_1) (hc0_1 : l0_1.length ≤ c0_1) (h : planner_Plan.f k l0_0 l0_1 a0_2 a0_3 a0_4 = some (r1, r2, r3, r4, r5, r6)) :
    Calls Try.prog 13 #[.agg #[.slice A0_0 l0_0.length c0_0, .slice A0_1 l0_1.length c0_1, .int .i64 a0_2, .int .i64 a0_3, .int .i64 a0_4]] w fun e w' => ∃ v0_ v1_ v2_ v3_ : Value, e = .returned (.tuple #[.agg #[v0_, v1_, v2_, v3_, .int .i64 r5], .int .i64 r6]) ∧ Kd.R (Kd.int .i64) 3 w' w.heap.size (fun k_ => some k_ ≠ (v1_ : Value).ownBlock ∧ some k_ ≠ (v2_ : Value).ownBlock ∧ some k_ ≠ (v3_ : Value).ownBlock) v0_ r1 ∧ Kd.R (Kd.int .i64) 3 w' w.heap.size (fun k_ => some k_ ≠ (v0_ : Value).ownBlock ∧ some k_ ≠ (v2_ : Value).ownBlock ∧ some k_ ≠ (v3_ : Value).ownBlock) v1_ r2 ∧ Kd.R (Kd.int .i64) 3 w' w.heap.size (fun k_ => some k_ ≠ (v0_ : Value).ownBlock ∧ some k_ ≠ (v1_ : Value).ownBlock ∧ some k_ ≠ (v3_ : Value).ownBlock) v2_ r3 ∧ Kd.R (Kd.int .i64) 3 w' w.heap.size (fun k_ => some k_ ≠ (v0_ : Value).ownBlock ∧ some k_ ≠ (v1_ : Value).ownBlock ∧ some k_ ≠ (v2_ : Value).ownBlock) v3_ r4 ∧ Below w.heap.size w w' := by
  unfold planner_Plan.f at h
  obtain ⟨t, ht, h⟩ := Option.bind_eq_some_iff.1 h
  have HR0 := Aside0.mk hr0_0
  have HR1 := Aside0.mk hr0_1
  have HT := Aside0.mk ht
  clear hr0_0 hr0_1
  by_cases hz : t = 0
  · subst hz
    rw [if_pos rfl] at h
    have hok := check_ok ht
    have HOK := Aside0.mk (show l0_0.length ≤ 4096 ∧ l0_1.length ≤ 4096 ∧ (∀ x ∈ l0_1, 0 ≤ x ∧ x ≤ 4096) ∧ Small (sumsOf l0_1) (rd l0_1 ((l0_1.length : Int) - 1)) ∧ Up (sumsOf l0_1) from ⟨hok.1, hok.2.2.1, hok.2.2.2.2.1, sums_small hok.2.1 hok.2.2.1 hok.2.2.2.2.1, sums_up hok.2.2.2.2.1⟩)
    have HP := Aside0.mk (show ∀ g, planner_plan.f k l0_0 l0_1 a0_2 a0_3 a0_4 g (sumsOf l0_1) (rd l0_1 ((l0_1.length : Int) - 1)) = some (r1, r2, r3, r4, r5, r6) from fun g => h)
    clear ht h hok
    go_enter Try.func13, Try.ntmps13
    go_wp2_with fail
    refine (planner_Check.calls k A0_0 c0_0 l0_0 A0_1 c0_1 l0_1 a0_2 a0_3 a0_4 0 _ (Kd.C_below HR0.out (by repeat (first | exact Below.refl _ _ | apply below_alloc))) hc0_0 (Kd.C_below HR1.out (by repeat (first | exact Below.refl _ _ | apply below_alloc))) hc0_1 HT.out).mono ?_
    rintro e w1 ⟨rfl, hb⟩
    have hb0 : Below w.heap.size w w1 := Below.trans (by repeat (first | exact Below.refl _ _ | apply below_alloc)) (hb.mono (by simp; omega))
    have hbk := blk_below (g := w.heap.size) (o := .cells #[.slice A0_0 l0_0.length c0_0, .slice A0_1 l0_1.length c0_1, .int .i64 a0_2, .int .i64 a0_3, .int .i64 a0_4] 24 (0, 0)) (blk_alloc (heap_alloc_new w _) _) hb
    have hbk3 := blk_below (g := w.heap.size + 1) (o := .cells #[.slice none 0 0, .slice none 0 0, .slice none 0 0, .slice none 0 0, .int .i64 0] 28 (0, 0)) (by have := heap_alloc_new (w.alloc (.cells #[.slice A0_0 l0_0.length c0_0, .slice A0_1 l0_1.length c0_1, .int .i64 a0_2, .int .i64 a0_3, .int .i64 a0_4] 24)) (.cells #[.slice none 0 0, .slice none 0 0, .slice none 0 0, .slice none 0 0, .int .i64 0] 28); rw [World.size_alloc] at this; exact this) hb
    have HBK3 := Aside0.mk hbk3
    have HSZ := Aside0.mk (show w.heap.size + 2 ≤ w1.heap.size from by have := hb.size; simpa using this)
    have HB1 := Aside0.mk hb0
    have t0 := (blk_cell hbk 0).trans rfl
    have t1 := (blk_cell hbk 1).trans rfl
    have t2 := (blk_cell hbk 2).trans rfl
    have t3 := (blk_cell hbk 3).trans rfl
    have t4 := (blk_cell hbk 4).trans rfl
    clear hb hb0 hbk hbk3
    go_wp2_with fail
    refine start_ (n := 10) (S := fun w' => w'.cell? ⟨w.heap.size, 0, none⟩ = some (.slice A0_0 l0_0.length c0_0) ∧ w'.cell? ⟨w.heap.size, 1, none⟩ = some (.slice A0_1 l0_1.length c0_1) ∧ w'.cell? ⟨w.heap.size, 2, none⟩ = some (.int .i64 a0_2) ∧ w'.cell? ⟨w.heap.size, 3, none⟩ = some (.int .i64 a0_3) ∧ w'.cell? ⟨w.heap.size, 4, none⟩ = some (.int .i64 a0_4)) (ds := [5, 8]) #[false, false, false, false, false, false, false, false, false, false] (by kernel_rfl) rfl rfl ⟨t0, t1, t2, t3, t4⟩ (fun hHeld => ?_)
    refine pure_ (i := 1) (N := some 12) (v := ?_) (a' := ?_) #[false, true, false, false, false, false, false, false, false, false] rfl rfl (by kernel_rfl) (fun _ _ _ h => h) (Or.inl ⟨by rfl, ?_⟩) ?_ ?_
    rotate_left
    · intro w'
      go_simp
      with_reducible rfl
    rotate_left
    · simp only [Act.put, List.setIfInBounds_toArray, List.set_cons_zero, List.set_cons_succ, i64_w, i32_w]
      rfl
    refine take_ (i := 0) (N := some 11) (v := ?_) (a' := ?_) #[true, true, false, false, false, false, false, false, false, false] rfl rfl (by kernel_rfl) (fun _ _ _ h => h) (Or.inl ⟨by rfl, ?_⟩) hHeld ?_ ?_
    rotate_left
    · rintro w' ⟨s0, s1, s2, s3, s4⟩
      go_simp
      with_reducible rfl
    rotate_left
    · simp only [Act.put, List.setIfInBounds_toArray, List.set_cons_zero, List.set_cons_succ, i64_w, i32_w]
      rfl
    refine take_ (i := 2) (N := some 13) (v := ?_) (a' := ?_) #[true, true, true, false, false, false, false, false, false, false] rfl rfl (by kernel_rfl) (fun _ _ _ h => h) (Or.inl ⟨by rfl, ?_⟩) hHeld ?_ ?_
    rotate_left
    · rintro w' ⟨s0, s1, s2, s3, s4⟩
      go_simp
      with_reducible rfl
    rotate_left
    · simp only [Act.put, List.setIfInBounds_toArray, List.set_cons_zero, List.set_cons_succ, i64_w, i32_w]
      rfl
    refine one_ (i := 3) (N := some 14) #[true, true, true, true, false, false, false, false, false, false] rfl rfl (by kernel_rfl) (by decide) (fun K hK => ?_)
    refine goes_ Try.func36 (by kernel_rfl) rfl #[.slice A0_1 l0_1.length c0_1] (by rfl) rfl rfl (by simp only [List.map_toArray, List.map_cons, List.map_nil]; rfl) ?_
    with_reducible refine (newCarrier_calls A0_1 c0_1 l0_1 _ (Kd.C_below HR1.out (below_drew HB1.out)) hc0_1 HOK.out.2.1 HOK.out.2.2.1).mono ?_
    rintro e w3 ⟨g, rfl, hcar, hb3⟩
    refine ⟨_, rfl, ?_⟩
    have HB3 := Aside0.mk (Below.trans (below_drew HB1.out) (hb3.mono (show w.heap.size ≤ w1.drew.heap.size from HB1.out.size)))
    have HB13 := Aside0.mk (show Below w1.heap.size w1 w3 from Below.trans (below_drew (Below.refl _ _)) hb3)
    have HCAR := Aside0.mk hcar
    clear hcar hb3
    refine hK.out _ _ ⟨pw_cell_below HB13.out t0, pw_cell_below HB13.out t1, pw_cell_below HB13.out t2, pw_cell_below HB13.out t3, pw_cell_below HB13.out t4⟩ (fun hHeld => ?_)
    clear hK K
    refine norm_ (a' := ?_) ?_ ?_
    rotate_left
    · show Act.put _ (some 14) _ = _
      simp only [Act.put, List.setIfInBounds_toArray, List.set_cons_zero, List.set_cons_succ, i64_w, i32_w]
      rfl
    refine pure_ (i := 4) (N := some 15) (v := ?_) (a' := ?_) #[true, true, true, true, true, false, false, false, false, false] rfl rfl (by kernel_rfl) (fun _ _ _ h => h) (Or.inl ⟨by rfl, ?_⟩) ?_ ?_
    rotate_left
    · intro w'
      go_simp
      with_reducible rfl
    rotate_left
    · simp only [Act.put, List.setIfInBounds_toArray, List.set_cons_zero, List.set_cons_succ, i64_w, i32_w]
      rfl
    refine last_ (i := 5) (N := some 16) #[true, true, true, true, true, true, false, false, false, false] rfl rfl (by kernel_rfl) (by decide) (fun K hK => ?_)
    refine goes_ Try.func35 (by kernel_rfl) rfl #[.agg #[.slice A0_0 l0_0.length c0_0, .slice A0_1 l0_1.length c0_1, .int .i64 a0_2, .int .i64 a0_3, .int .i64 a0_4], .func (.func 37) #[.pointer (some ⟨g, 0, none⟩)] #[]] (by rfl) rfl rfl (by simp only [List.map_toArray, List.map_cons, List.map_nil]; rfl) ?_
    with_reducible refine (planner_plan.calls k A0_0 c0_0 l0_0 A0_1 c0_1 l0_1 a0_2 a0_3 a0_4 g (sumsOf l0_1) (rd l0_1 ((l0_1.length : Int) - 1)) r1 r2 r3 r4 r5 r6 _ (Kd.C_below HR0.out HB3.out) hc0_0 (Kd.C_below HR1.out HB3.out) hc0_1 HCAR.out HOK.out.2.2.2.1 HOK.out.2.2.2.2 (HP.out g)).mono ?_
    rintro e w4 ⟨v0, v1, v2, v3, rfl, R0, R1, R2, R3, hb4⟩
    refine ⟨_, rfl, ?_⟩
    obtain ⟨B0, d0, rfl⟩ := Kd.R_slice R0
    obtain ⟨B1, d1, rfl⟩ := Kd.R_slice R1
    obtain ⟨B2, d2, rfl⟩ := Kd.R_slice R2
    obtain ⟨B3, d3, rfl⟩ := Kd.R_slice R3
    have hblk := blk_below HBK3.out (HB13.out.trans (hb4.mono HB13.out.size))
    have HBK4 := Aside0.mk hblk
    have x0 := (blk_cell hblk 0).trans rfl
    have x1 := (blk_cell hblk 1).trans rfl
    have x2 := (blk_cell hblk 2).trans rfl
    have x3 := (blk_cell hblk 3).trans rfl
    have x4 := (blk_cell hblk 4).trans rfl
    have y0 := blk_frozen hblk 0
    have y1 := blk_frozen hblk 1
    have y2 := blk_frozen hblk 2
    have y3 := blk_frozen hblk 3
    have y4 := blk_frozen hblk 4
    have HB4 := Aside0.mk (HB3.out.trans (hb4.mono HB3.out.size))
    have RR := Aside0.mk (And.intro R0 (And.intro R1 (And.intro R2 R3)))
    have HS3 := Aside0.mk (show w.heap.size + 2 ≤ w3.heap.size from Nat.le_trans HSZ.out HB13.out.size)
    clear R0 R1 R2 R3 hb4 hblk
    refine hK.out _ _ ?_
    clear hK K
    refine norm_ (a' := ?_) ?_ ?_
    rotate_left
    · show Act.put _ (some 16) _ = _
      simp only [Act.put, List.setIfInBounds_toArray, List.set_cons_zero, List.set_cons_succ, i64_w, i32_w]
      rfl
    refine pure_ (i := 6) (N := some 17) (v := ?_) (a' := ?_) #[true, true, true, true, true, true, true, false, false, false] rfl rfl (by kernel_rfl) (fun _ _ _ h => h) (Or.inl ⟨by rfl, ?_⟩) ?_ ?_
    rotate_left
    · intro w'
      go_simp
      with_reducible rfl
    rotate_left
    · simp only [Act.put, List.setIfInBounds_toArray, List.set_cons_zero, List.set_cons_succ, i64_w, i32_w]
      rfl
    refine pure_ (i := 7) (N := some 18) (v := ?_) (a' := ?_) #[true, true, true, true, true, true, true, true, false, false] rfl rfl (by kernel_rfl) (fun _ _ _ h => h) (Or.inl ⟨by rfl, ?_⟩) ?_ ?_
    rotate_left
    · intro w'
      go_simp
      with_reducible rfl
    rotate_left
    · simp only [Act.put, List.setIfInBounds_toArray, List.set_cons_zero, List.set_cons_succ, i64_w, i32_w]
      rfl
    refine last_ (i := 8) (N := none) #[true, true, true, true, true, true, true, true, true, false] rfl rfl (by kernel_rfl) (by decide) (fun K hK => ?_)
    refine skip_ (w1 := ?_) (by rfl) rfl ?_ ?_
    rotate_left
    · go_simp
      rfl
    refine hK.out _ _ ?_
    clear hK K
    refine pure_ (i := 9) (N := some 3) (v := ?_) (a' := ?_) #[true, true, true, true, true, true, true, true, true, true] rfl rfl (by kernel_rfl) (fun _ _ _ h => h) (Or.inl ⟨by rfl, ?_⟩) ?_ ?_
    rotate_left
    · intro w'
      go_simp
      with_reducible rfl
    rotate_left
    · simp only [Act.put, List.setIfInBounds_toArray, List.set_cons_zero, List.set_cons_succ, i64_w, i32_w]
      rfl
    refine done_ (by kernel_rfl) ?_

    go_wp2
    refine bodyPost_ret (results_ct rfl _ _ (w.heap.size + 1) 28 #[.slice B0 r1.length d0, .slice B1 r2.length d1, .slice B2 r3.length d2, .slice B3 r4.length d3, .int .i64 r5] (0, 0) _ rfl (blk_five HBK4.out _ _ _ _ _) Try.underlying28 rfl (by kernel_rfl)) rfl ?_
    have hlt : w.heap.size + 1 < w3.heap.size := by have := HS3.out; omega
    have hle : w.heap.size ≤ w3.heap.size := by omega
    exact ⟨_, _, _, _, rfl, R_five RR.out.1 hlt hle _ _ _ _ _, R_five RR.out.2.1 hlt hle _ _ _ _ _, R_five RR.out.2.2.1 hlt hle _ _ _ _ _, R_five RR.out.2.2.2 hlt hle _ _ _ _ _, below_five HB4.out (by omega) _ _ _ _ _⟩
  · rw [if_neg hz] at h
    have hz2 : (t != 0) = true := by simpa using hz
    have e := Option.some.inj h
    simp only [Prod.mk.injEq] at e
    obtain ⟨rfl, rfl, rfl, rfl, rfl, rfl⟩ := e
    clear ht h
    go_enter Try.func13, Try.ntmps13
    go_wp2_with fail
    refine (planner_Check.calls k A0_0 c0_0 l0_0 A0_1 c0_1 l0_1 a0_2 a0_3 a0_4 t _ (Kd.C_below HR0.out (by repeat (first | exact Below.refl _ _ | apply below_alloc))) hc0_0 (Kd.C_below HR1.out (by repeat (first | exact Below.refl _ _ | apply below_alloc))) hc0_1 HT.out).mono ?_
    rintro e w1 ⟨rfl, hb⟩
    have hb0 : Below w.heap.size w w1 := Below.trans (by repeat (first | exact Below.refl _ _ | apply below_alloc)) (hb.mono (by simp; omega))
    have hblk := blk_below (g := w.heap.size + 1) (o := .cells #[.slice none 0 0, .slice none 0 0, .slice none 0 0, .slice none 0 0, .int .i64 0] 28 (0, 0)) (by have := heap_alloc_new (w.alloc (.cells #[.slice A0_0 l0_0.length c0_0, .slice A0_1 l0_1.length c0_1, .int .i64 a0_2, .int .i64 a0_3, .int .i64 a0_4] 24)) (.cells #[.slice none 0 0, .slice none 0 0, .slice none 0 0, .slice none 0 0, .int .i64 0] 28); rw [World.size_alloc] at this; exact this) hb
    have HBK4 := Aside0.mk hblk
    have x0 := (blk_cell hblk 0).trans rfl
    have x1 := (blk_cell hblk 1).trans rfl
    have x2 := (blk_cell hblk 2).trans rfl
    have x3 := (blk_cell hblk 3).trans rfl
    have x4 := (blk_cell hblk 4).trans rfl
    have y0 := blk_frozen hblk 0
    have y1 := blk_frozen hblk 1
    have y2 := blk_frozen hblk 2
    have y3 := blk_frozen hblk 3
    have y4 := blk_frozen hblk 4
    have HB4 := Aside0.mk hb0
    clear hb hb0 hblk
    go_wp2
    refine bodyPost_ret (results_ct rfl _ _ (w.heap.size + 1) 28 #[.slice none 0 0, .slice none 0 0, .slice none 0 0, .slice none 0 0, .int .i64 0] (0, 0) _ rfl (blk_five HBK4.out _ _ _ _ _) Try.underlying28 rfl (by kernel_rfl)) rfl ?_
    exact ⟨_, _, _, _, rfl, Kd.R_nil _ _ _ _ _, Kd.R_nil _ _ _ _ _, Kd.R_nil _ _ _ _ _, Kd.R_nil _ _ _ _ _, below_five HB4.out (by omega) _ _ _ _ _⟩
end Go.Proofs.Ytcflacjidabppaa.Pr

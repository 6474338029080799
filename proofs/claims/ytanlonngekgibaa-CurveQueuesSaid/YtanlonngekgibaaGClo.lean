/- The closures over two curves. -/
import Derived.Test.YtanlonngekgibaaGFnV
import Derived.Test.YtanlonngekgibaaF44
import Derived.Test.YtanlonngekgibaaF57
namespace Go.Proofs.Ytanlonngekgibaa.Pr
open Go.RowKit Go.Proofs.YtanlonngekgibaaW.PrintWords Go.Proofs.YtanlonngekgibaaW.PrintLast Go.Proofs.YtanlonngekgibaaW.PrintMore
set_option linter.unusedVariables false
set_option linter.unusedSimpArgs false
attribute [local go_sem] max2_int min2_int max_two min_two max_three min_three max_four min_four

/-- Two curves in two variables. -/
structure Two (w : World) (bx bY : Nat) (A0 : Option Addr) (c0 : Nat) (l0 : List Int) (s0 : Int) (A1 : Option Addr) (c1 : Nat) (l1 : List Int) (s1 : Int) : Prop where
  hx : w.heap[bx]? = some (.cells #[.slice A0 l0.length c0, .int .i64 s0] 57 (0, 0))
  hy : w.heap[bY]? = some (.cells #[.slice A1 l1.length c1, .int .i64 s1] 57 (0, 0))
  r0 : Kd.C (Kd.int .i64) w A0 l0.length l0
  r1 : Kd.C (Kd.int .i64) w A1 l1.length l1
  k0 : l0.length ≤ c0
  k1 : l1.length ≤ c1
theorem Two.below {w w1 : World} {bx bY : Nat} {A0 : Option Addr} {c0 : Nat} {l0 : List Int} {s0 : Int} {A1 : Option Addr} {c1 : Nat} {l1 : List Int} {s1 : Int} (h : Two w bx bY A0 c0 l0 s0 A1 c1 l1 s1) (hb : Below w.heap.size w w1) : Two w1 bx bY A0 c0 l0 s0 A1 c1 l1 s1 :=
  ⟨blk_below h.hx hb, blk_below h.hy hb, Kd.C_below h.r0 hb, Kd.C_below h.r1 hb, h.k0, h.k1⟩

section
def backF (l0 : List Int) (s0 : Int) (l1 : List Int) (s1 : Int) (t : Int) : Option Int := (curve_curve_at.f l0 s0 t).bind fun v => (curve_curve_at.f l1 s1 t).bind fun u => some (wrap64 (v - u))
def addF (l0 : List Int) (s0 : Int) (l1 : List Int) (s1 : Int) (t : Int) : Option Int := (curve_curve_at.f l0 s0 t).bind fun v => (curve_curve_at.f l1 s1 t).bind fun u => some (wrap64 (v + u))
def minF (l0 : List Int) (s0 : Int) (l1 : List Int) (s1 : Int) (t : Int) : Option Int := (curve_curve_at.f l0 s0 t).bind fun v => (curve_curve_at.f l1 s1 t).bind fun u => some (mn v u)
def delayF (k : Nat) (l0 : List Int) (s0 : Int) (l1 : List Int) (s1 : Int) (t : Int) : Option Int := (curve_curve_at.f l0 s0 t).bind fun v => (curve_curve_reach.f k l1 s1 v).bind fun u => some (wrap64 (u - t))

set_option maxRecDepth 100000 in
theorem back_run (bx bY : Nat) (A0 : Option Addr) (c0 : Nat) (l0 : List Int) (s0 : Int) (A1 : Option Addr) (c1 : Nat) (l1 : List Int) (s1 : Int) (t r : Int) (w : World) (hT : Two w bx bY A0 c0 l0 s0 A1 c1 l1 s1) (h : backF l0 s0 l1 s1 t = some r) :
    Calls Try.prog 59 #[.int .i64 t, .pointer (some ⟨bx, 0, none⟩), .pointer (some ⟨bY, 0, none⟩)] w fun e w' => e = .returned (.int .i64 r) ∧ Below w.heap.size w w' := by
  unfold backF at h
  obtain ⟨v, h1, h⟩ := Option.bind_eq_some_iff.1 h
  obtain ⟨u, h2, h⟩ := Option.bind_eq_some_iff.1 h
  obtain rfl := Option.some.inj h
  have H1 := Aside0.mk h1
  have H2 := Aside0.mk h2
  have XB := Aside0.mk hT.hx
  have YB := Aside0.mk hT.hy
  have hc0 := Aside0.mk hT.k0
  have hc1 := Aside0.mk hT.k1
  have HR : Aside0 (∀ W, Below w.heap.size w W → Kd.C (Kd.int .i64) W A0 l0.length l0 ∧ Kd.C (Kd.int .i64) W A1 l1.length l1) := ⟨fun W hW => ⟨Kd.C_below hT.r0 hW, Kd.C_below hT.r1 hW⟩⟩
  have x0 := (blk_cell hT.hx 0).trans rfl
  have x1 := (blk_cell hT.hx 1).trans rfl
  have y0 := (blk_cell hT.hy 0).trans rfl
  have y1 := (blk_cell hT.hy 1).trans rfl
  have HM0 := Aside0.mk (below_drew (Below.refl w.heap.size w))
  clear hT h1 h2 h
  go_enter Try.func59, Try.ntmps59
  go_wp2_with fail
  refine start_ (n := 8) (S := fun w' => w'.cell? ⟨bx, 0, none⟩ = some (.slice A0 l0.length c0) ∧ w'.cell? ⟨bx, 1, none⟩ = some (.int .i64 s0) ∧ w'.cell? ⟨bY, 0, none⟩ = some (.slice A1 l1.length c1) ∧ w'.cell? ⟨bY, 1, none⟩ = some (.int .i64 s1)) (ds := []) #[false, false, false, false, false, false, false, false] (by kernel_rfl) rfl rfl ⟨x0, x1, y0, y1⟩ (fun hHeld => ?_)
  refine pure_ (i := 1) (N := some 6) (v := ?_) (a' := ?_) #[false, true, false, false, false, false, false, false] rfl rfl (by kernel_rfl) (fun _ _ _ h => h) (Or.inl ⟨by rfl, ?_⟩) ?_ ?_
  rotate_left
  · intro w'
    go_simp
    with_reducible rfl
  rotate_left
  · simp only [Act.put, List.setIfInBounds_toArray, List.set_cons_zero, List.set_cons_succ, i64_w, i32_w]
    rfl
  refine pure_ (i := 4) (N := some 9) (v := ?_) (a' := ?_) #[false, true, false, false, true, false, false, false] rfl rfl (by kernel_rfl) (fun _ _ _ h => h) (Or.inl ⟨by rfl, ?_⟩) ?_ ?_
  rotate_left
  · intro w'
    go_simp
    with_reducible rfl
  rotate_left
  · simp only [Act.put, List.setIfInBounds_toArray, List.set_cons_zero, List.set_cons_succ, i64_w, i32_w]
    rfl
  refine take_ (i := 0) (N := some 5) (v := ?_) (a' := ?_) #[true, true, false, false, true, false, false, false] rfl rfl (by kernel_rfl) (fun _ _ _ h => h) (Or.inl ⟨by rfl, ?_⟩) hHeld ?_ ?_
  rotate_left
  · rintro w' ⟨s0, s1, s2, s3⟩
    go_simp
    with_reducible rfl
  rotate_left
  · simp only [Act.put, List.setIfInBounds_toArray, List.set_cons_zero, List.set_cons_succ, i64_w, i32_w]
    rfl
  refine take_ (i := 3) (N := some 8) (v := ?_) (a' := ?_) #[true, true, false, true, true, false, false, false] rfl rfl (by kernel_rfl) (fun _ _ _ h => h) (Or.inl ⟨by rfl, ?_⟩) hHeld ?_ ?_
  rotate_left
  · rintro w' ⟨s0, s1, s2, s3⟩
    go_simp
    with_reducible rfl
  rotate_left
  · simp only [Act.put, List.setIfInBounds_toArray, List.set_cons_zero, List.set_cons_succ, i64_w, i32_w]
    rfl
  refine one_ (i := 2) (N := some 7) #[true, true, true, true, true, false, false, false] rfl rfl (by kernel_rfl) (by decide) (fun K hK => ?_)
  refine goes_ Try.func44 (by kernel_rfl) rfl #[.agg #[.slice A0 l0.length c0, .int .i64 s0], .int .i64 t] (by rfl) rfl rfl (by simp only [List.map_toArray, List.map_cons, List.map_nil] <;> rfl) ?_
  with_reducible refine (curve_curve_at.calls A0 c0 l0 s0 t v _ (HR.out _ HM0.out).1 hc0.out H1.out).mono ?_
  rintro e v1 ⟨rfl, hbl⟩
  refine ⟨_, rfl, ?_⟩
  have HM1 := Aside0.mk (below_then HM0.out HM0.out.size hbl)
  clear hbl
  refine hK.out _ _ ⟨(blk_cell (blk_below XB.out HM1.out) 0).trans rfl, (blk_cell (blk_below XB.out HM1.out) 1).trans rfl, (blk_cell (blk_below YB.out HM1.out) 0).trans rfl, (blk_cell (blk_below YB.out HM1.out) 1).trans rfl⟩ (fun hHeld => ?_)
  clear hK K
  refine norm_ (a' := ?_) ?_ ?_
  rotate_left
  · show Act.put _ (some 7) _ = _
    simp only [Act.put, List.setIfInBounds_toArray, List.set_cons_zero, List.set_cons_succ, i64_w, i32_w]
    rfl
  refine one_ (i := 5) (N := some 10) #[true, true, true, true, true, true, false, false] rfl rfl (by kernel_rfl) (by decide) (fun K hK => ?_)
  refine goes_ Try.func44 (by kernel_rfl) rfl #[.agg #[.slice A1 l1.length c1, .int .i64 s1], .int .i64 t] (by rfl) rfl rfl (by simp only [List.map_toArray, List.map_cons, List.map_nil] <;> rfl) ?_
  with_reducible refine (curve_curve_at.calls A1 c1 l1 s1 t u _ (HR.out _ HM1.out).2 hc1.out H2.out).mono ?_
  rintro e v2 ⟨rfl, hbl⟩
  refine ⟨_, rfl, ?_⟩
  have HM2 := Aside0.mk (below_then HM1.out HM1.out.size hbl)
  clear hbl
  refine hK.out _ _ ⟨(blk_cell (blk_below XB.out HM2.out) 0).trans rfl, (blk_cell (blk_below XB.out HM2.out) 1).trans rfl, (blk_cell (blk_below YB.out HM2.out) 0).trans rfl, (blk_cell (blk_below YB.out HM2.out) 1).trans rfl⟩ (fun hHeld => ?_)
  clear hK K
  refine norm_ (a' := ?_) ?_ ?_
  rotate_left
  · show Act.put _ (some 10) _ = _
    simp only [Act.put, List.setIfInBounds_toArray, List.set_cons_zero, List.set_cons_succ, i64_w, i32_w]
    rfl
  refine pure_ (i := 6) (N := some 11) (v := ?_) (a' := ?_) #[true, true, true, true, true, true, true, false] rfl rfl (by kernel_rfl) (fun _ _ _ h => h) (Or.inl ⟨by rfl, ?_⟩) ?_ ?_
  rotate_left
  · intro w'
    go_simp
    with_reducible rfl
  rotate_left
  · simp only [Act.put, List.setIfInBounds_toArray, List.set_cons_zero, List.set_cons_succ, i64_w, i32_w]
    rfl
  refine pure_ (i := 7) (N := some 4) (v := ?_) (a' := ?_) #[true, true, true, true, true, true, true, true] rfl rfl (by kernel_rfl) (fun _ _ _ h => h) (Or.inl ⟨by rfl, ?_⟩) ?_ ?_
  rotate_left
  · intro w'
    go_simp
    with_reducible rfl
  rotate_left
  · simp only [Act.put, List.setIfInBounds_toArray, List.set_cons_zero, List.set_cons_succ, i64_w, i32_w]
    rfl
  refine done_ (by kernel_rfl) ?_

  clear hHeld x0 x1 y0 y1
  go_wp2
  go_ret
  exact ⟨rfl, HM2.out⟩

set_option maxRecDepth 100000 in
theorem add_run (bx bY : Nat) (A0 : Option Addr) (c0 : Nat) (l0 : List Int) (s0 : Int) (A1 : Option Addr) (c1 : Nat) (l1 : List Int) (s1 : Int) (t r : Int) (w : World) (hT : Two w bx bY A0 c0 l0 s0 A1 c1 l1 s1) (h : addF l0 s0 l1 s1 t = some r) :
    Calls Try.prog 62 #[.int .i64 t, .pointer (some ⟨bx, 0, none⟩), .pointer (some ⟨bY, 0, none⟩)] w fun e w' => e = .returned (.int .i64 r) ∧ Below w.heap.size w w' := by
  unfold addF at h
  obtain ⟨v, h1, h⟩ := Option.bind_eq_some_iff.1 h
  obtain ⟨u, h2, h⟩ := Option.bind_eq_some_iff.1 h
  obtain rfl := Option.some.inj h
  have H1 := Aside0.mk h1
  have H2 := Aside0.mk h2
  have XB := Aside0.mk hT.hx
  have YB := Aside0.mk hT.hy
  have hc0 := Aside0.mk hT.k0
  have hc1 := Aside0.mk hT.k1
  have HR : Aside0 (∀ W, Below w.heap.size w W → Kd.C (Kd.int .i64) W A0 l0.length l0 ∧ Kd.C (Kd.int .i64) W A1 l1.length l1) := ⟨fun W hW => ⟨Kd.C_below hT.r0 hW, Kd.C_below hT.r1 hW⟩⟩
  have x0 := (blk_cell hT.hx 0).trans rfl
  have x1 := (blk_cell hT.hx 1).trans rfl
  have y0 := (blk_cell hT.hy 0).trans rfl
  have y1 := (blk_cell hT.hy 1).trans rfl
  have HM0 := Aside0.mk (below_drew (Below.refl w.heap.size w))
  clear hT h1 h2 h
  go_enter Try.func62, Try.ntmps62
  go_wp2_with fail
  refine start_ (n := 8) (S := fun w' => w'.cell? ⟨bx, 0, none⟩ = some (.slice A0 l0.length c0) ∧ w'.cell? ⟨bx, 1, none⟩ = some (.int .i64 s0) ∧ w'.cell? ⟨bY, 0, none⟩ = some (.slice A1 l1.length c1) ∧ w'.cell? ⟨bY, 1, none⟩ = some (.int .i64 s1)) (ds := []) #[false, false, false, false, false, false, false, false] (by kernel_rfl) rfl rfl ⟨x0, x1, y0, y1⟩ (fun hHeld => ?_)
  refine pure_ (i := 1) (N := some 6) (v := ?_) (a' := ?_) #[false, true, false, false, false, false, false, false] rfl rfl (by kernel_rfl) (fun _ _ _ h => h) (Or.inl ⟨by rfl, ?_⟩) ?_ ?_
  rotate_left
  · intro w'
    go_simp
    with_reducible rfl
  rotate_left
  · simp only [Act.put, List.setIfInBounds_toArray, List.set_cons_zero, List.set_cons_succ, i64_w, i32_w]
    rfl
  refine pure_ (i := 4) (N := some 9) (v := ?_) (a' := ?_) #[false, true, false, false, true, false, false, false] rfl rfl (by kernel_rfl) (fun _ _ _ h => h) (Or.inl ⟨by rfl, ?_⟩) ?_ ?_
  rotate_left
  · intro w'
    go_simp
    with_reducible rfl
  rotate_left
  · simp only [Act.put, List.setIfInBounds_toArray, List.set_cons_zero, List.set_cons_succ, i64_w, i32_w]
    rfl
  refine take_ (i := 0) (N := some 5) (v := ?_) (a' := ?_) #[true, true, false, false, true, false, false, false] rfl rfl (by kernel_rfl) (fun _ _ _ h => h) (Or.inl ⟨by rfl, ?_⟩) hHeld ?_ ?_
  rotate_left
  · rintro w' ⟨s0, s1, s2, s3⟩
    go_simp
    with_reducible rfl
  rotate_left
  · simp only [Act.put, List.setIfInBounds_toArray, List.set_cons_zero, List.set_cons_succ, i64_w, i32_w]
    rfl
  refine take_ (i := 3) (N := some 8) (v := ?_) (a' := ?_) #[true, true, false, true, true, false, false, false] rfl rfl (by kernel_rfl) (fun _ _ _ h => h) (Or.inl ⟨by rfl, ?_⟩) hHeld ?_ ?_
  rotate_left
  · rintro w' ⟨s0, s1, s2, s3⟩
    go_simp
    with_reducible rfl
  rotate_left
  · simp only [Act.put, List.setIfInBounds_toArray, List.set_cons_zero, List.set_cons_succ, i64_w, i32_w]
    rfl
  refine one_ (i := 2) (N := some 7) #[true, true, true, true, true, false, false, false] rfl rfl (by kernel_rfl) (by decide) (fun K hK => ?_)
  refine goes_ Try.func44 (by kernel_rfl) rfl #[.agg #[.slice A0 l0.length c0, .int .i64 s0], .int .i64 t] (by rfl) rfl rfl (by simp only [List.map_toArray, List.map_cons, List.map_nil] <;> rfl) ?_
  with_reducible refine (curve_curve_at.calls A0 c0 l0 s0 t v _ (HR.out _ HM0.out).1 hc0.out H1.out).mono ?_
  rintro e v1 ⟨rfl, hbl⟩
  refine ⟨_, rfl, ?_⟩
  have HM1 := Aside0.mk (below_then HM0.out HM0.out.size hbl)
  clear hbl
  refine hK.out _ _ ⟨(blk_cell (blk_below XB.out HM1.out) 0).trans rfl, (blk_cell (blk_below XB.out HM1.out) 1).trans rfl, (blk_cell (blk_below YB.out HM1.out) 0).trans rfl, (blk_cell (blk_below YB.out HM1.out) 1).trans rfl⟩ (fun hHeld => ?_)
  clear hK K
  refine norm_ (a' := ?_) ?_ ?_
  rotate_left
  · show Act.put _ (some 7) _ = _
    simp only [Act.put, List.setIfInBounds_toArray, List.set_cons_zero, List.set_cons_succ, i64_w, i32_w]
    rfl
  refine one_ (i := 5) (N := some 10) #[true, true, true, true, true, true, false, false] rfl rfl (by kernel_rfl) (by decide) (fun K hK => ?_)
  refine goes_ Try.func44 (by kernel_rfl) rfl #[.agg #[.slice A1 l1.length c1, .int .i64 s1], .int .i64 t] (by rfl) rfl rfl (by simp only [List.map_toArray, List.map_cons, List.map_nil] <;> rfl) ?_
  with_reducible refine (curve_curve_at.calls A1 c1 l1 s1 t u _ (HR.out _ HM1.out).2 hc1.out H2.out).mono ?_
  rintro e v2 ⟨rfl, hbl⟩
  refine ⟨_, rfl, ?_⟩
  have HM2 := Aside0.mk (below_then HM1.out HM1.out.size hbl)
  clear hbl
  refine hK.out _ _ ⟨(blk_cell (blk_below XB.out HM2.out) 0).trans rfl, (blk_cell (blk_below XB.out HM2.out) 1).trans rfl, (blk_cell (blk_below YB.out HM2.out) 0).trans rfl, (blk_cell (blk_below YB.out HM2.out) 1).trans rfl⟩ (fun hHeld => ?_)
  clear hK K
  refine norm_ (a' := ?_) ?_ ?_
  rotate_left
  · show Act.put _ (some 10) _ = _
    simp only [Act.put, List.setIfInBounds_toArray, List.set_cons_zero, List.set_cons_succ, i64_w, i32_w]
    rfl
  refine pure_ (i := 6) (N := some 11) (v := ?_) (a' := ?_) #[true, true, true, true, true, true, true, false] rfl rfl (by kernel_rfl) (fun _ _ _ h => h) (Or.inl ⟨by rfl, ?_⟩) ?_ ?_
  rotate_left
  · intro w'
    go_simp
    with_reducible rfl
  rotate_left
  · simp only [Act.put, List.setIfInBounds_toArray, List.set_cons_zero, List.set_cons_succ, i64_w, i32_w]
    rfl
  refine pure_ (i := 7) (N := some 4) (v := ?_) (a' := ?_) #[true, true, true, true, true, true, true, true] rfl rfl (by kernel_rfl) (fun _ _ _ h => h) (Or.inl ⟨by rfl, ?_⟩) ?_ ?_
  rotate_left
  · intro w'
    go_simp
    with_reducible rfl
  rotate_left
  · simp only [Act.put, List.setIfInBounds_toArray, List.set_cons_zero, List.set_cons_succ, i64_w, i32_w]
    rfl
  refine done_ (by kernel_rfl) ?_

  clear hHeld x0 x1 y0 y1
  go_wp2
  go_ret
  exact ⟨rfl, HM2.out⟩

set_option maxRecDepth 100000 in
theorem min_run (bx bY : Nat) (A0 : Option Addr) (c0 : Nat) (l0 : List Int) (s0 : Int) (A1 : Option Addr) (c1 : Nat) (l1 : List Int) (s1 : Int) (t r : Int) (w : World) (hT : Two w bx bY A0 c0 l0 s0 A1 c1 l1 s1) (h : minF l0 s0 l1 s1 t = some r) :
    Calls Try.prog 61 #[.int .i64 t, .pointer (some ⟨bx, 0, none⟩), .pointer (some ⟨bY, 0, none⟩)] w fun e w' => e = .returned (.int .i64 r) ∧ Below w.heap.size w w' := by
  unfold minF at h
  obtain ⟨v, h1, h⟩ := Option.bind_eq_some_iff.1 h
  obtain ⟨u, h2, h⟩ := Option.bind_eq_some_iff.1 h
  replace h := Option.some.inj h
  have hz_ : (if u < v then u else v) = r := h
  have H1 := Aside0.mk h1
  have H2 := Aside0.mk h2
  have XB := Aside0.mk hT.hx
  have YB := Aside0.mk hT.hy
  have hc0 := Aside0.mk hT.k0
  have hc1 := Aside0.mk hT.k1
  have HR : Aside0 (∀ W, Below w.heap.size w W → Kd.C (Kd.int .i64) W A0 l0.length l0 ∧ Kd.C (Kd.int .i64) W A1 l1.length l1) := ⟨fun W hW => ⟨Kd.C_below hT.r0 hW, Kd.C_below hT.r1 hW⟩⟩
  have x0 := (blk_cell hT.hx 0).trans rfl
  have x1 := (blk_cell hT.hx 1).trans rfl
  have y0 := (blk_cell hT.hy 0).trans rfl
  have y1 := (blk_cell hT.hy 1).trans rfl
  have HM0 := Aside0.mk (below_drew (Below.refl w.heap.size w))
  clear hT h1 h2 h
  go_enter Try.func61, Try.ntmps61
  go_wp2_with fail
  refine start_ (n := 8) (S := fun w' => w'.cell? ⟨bx, 0, none⟩ = some (.slice A0 l0.length c0) ∧ w'.cell? ⟨bx, 1, none⟩ = some (.int .i64 s0) ∧ w'.cell? ⟨bY, 0, none⟩ = some (.slice A1 l1.length c1) ∧ w'.cell? ⟨bY, 1, none⟩ = some (.int .i64 s1)) (ds := []) #[false, false, false, false, false, false, false, false] (by kernel_rfl) rfl rfl ⟨x0, x1, y0, y1⟩ (fun hHeld => ?_)
  refine pure_ (i := 1) (N := some 6) (v := ?_) (a' := ?_) #[false, true, false, false, false, false, false, false] rfl rfl (by kernel_rfl) (fun _ _ _ h => h) (Or.inl ⟨by rfl, ?_⟩) ?_ ?_
  rotate_left
  · intro w'
    go_simp
    with_reducible rfl
  rotate_left
  · simp only [Act.put, List.setIfInBounds_toArray, List.set_cons_zero, List.set_cons_succ, i64_w, i32_w]
    rfl
  refine pure_ (i := 4) (N := some 9) (v := ?_) (a' := ?_) #[false, true, false, false, true, false, false, false] rfl rfl (by kernel_rfl) (fun _ _ _ h => h) (Or.inl ⟨by rfl, ?_⟩) ?_ ?_
  rotate_left
  · intro w'
    go_simp
    with_reducible rfl
  rotate_left
  · simp only [Act.put, List.setIfInBounds_toArray, List.set_cons_zero, List.set_cons_succ, i64_w, i32_w]
    rfl
  refine take_ (i := 0) (N := some 5) (v := ?_) (a' := ?_) #[true, true, false, false, true, false, false, false] rfl rfl (by kernel_rfl) (fun _ _ _ h => h) (Or.inl ⟨by rfl, ?_⟩) hHeld ?_ ?_
  rotate_left
  · rintro w' ⟨s0, s1, s2, s3⟩
    go_simp
    with_reducible rfl
  rotate_left
  · simp only [Act.put, List.setIfInBounds_toArray, List.set_cons_zero, List.set_cons_succ, i64_w, i32_w]
    rfl
  refine take_ (i := 3) (N := some 8) (v := ?_) (a' := ?_) #[true, true, false, true, true, false, false, false] rfl rfl (by kernel_rfl) (fun _ _ _ h => h) (Or.inl ⟨by rfl, ?_⟩) hHeld ?_ ?_
  rotate_left
  · rintro w' ⟨s0, s1, s2, s3⟩
    go_simp
    with_reducible rfl
  rotate_left
  · simp only [Act.put, List.setIfInBounds_toArray, List.set_cons_zero, List.set_cons_succ, i64_w, i32_w]
    rfl
  refine one_ (i := 2) (N := some 7) #[true, true, true, true, true, false, false, false] rfl rfl (by kernel_rfl) (by decide) (fun K hK => ?_)
  refine goes_ Try.func44 (by kernel_rfl) rfl #[.agg #[.slice A0 l0.length c0, .int .i64 s0], .int .i64 t] (by rfl) rfl rfl (by simp only [List.map_toArray, List.map_cons, List.map_nil] <;> rfl) ?_
  with_reducible refine (curve_curve_at.calls A0 c0 l0 s0 t v _ (HR.out _ HM0.out).1 hc0.out H1.out).mono ?_
  rintro e v1 ⟨rfl, hbl⟩
  refine ⟨_, rfl, ?_⟩
  have HM1 := Aside0.mk (below_then HM0.out HM0.out.size hbl)
  clear hbl
  refine hK.out _ _ ⟨(blk_cell (blk_below XB.out HM1.out) 0).trans rfl, (blk_cell (blk_below XB.out HM1.out) 1).trans rfl, (blk_cell (blk_below YB.out HM1.out) 0).trans rfl, (blk_cell (blk_below YB.out HM1.out) 1).trans rfl⟩ (fun hHeld => ?_)
  clear hK K
  refine norm_ (a' := ?_) ?_ ?_
  rotate_left
  · show Act.put _ (some 7) _ = _
    simp only [Act.put, List.setIfInBounds_toArray, List.set_cons_zero, List.set_cons_succ, i64_w, i32_w]
    rfl
  refine one_ (i := 5) (N := some 10) #[true, true, true, true, true, true, false, false] rfl rfl (by kernel_rfl) (by decide) (fun K hK => ?_)
  refine goes_ Try.func44 (by kernel_rfl) rfl #[.agg #[.slice A1 l1.length c1, .int .i64 s1], .int .i64 t] (by rfl) rfl rfl (by simp only [List.map_toArray, List.map_cons, List.map_nil] <;> rfl) ?_
  with_reducible refine (curve_curve_at.calls A1 c1 l1 s1 t u _ (HR.out _ HM1.out).2 hc1.out H2.out).mono ?_
  rintro e v2 ⟨rfl, hbl⟩
  refine ⟨_, rfl, ?_⟩
  have HM2 := Aside0.mk (below_then HM1.out HM1.out.size hbl)
  clear hbl
  refine hK.out _ _ ⟨(blk_cell (blk_below XB.out HM2.out) 0).trans rfl, (blk_cell (blk_below XB.out HM2.out) 1).trans rfl, (blk_cell (blk_below YB.out HM2.out) 0).trans rfl, (blk_cell (blk_below YB.out HM2.out) 1).trans rfl⟩ (fun hHeld => ?_)
  clear hK K
  refine norm_ (a' := ?_) ?_ ?_
  rotate_left
  · show Act.put _ (some 10) _ = _
    simp only [Act.put, List.setIfInBounds_toArray, List.set_cons_zero, List.set_cons_succ, i64_w, i32_w]
    rfl
  refine pure_ (i := 6) (N := some 11) (v := ?_) (a' := ?_) #[true, true, true, true, true, true, true, false] rfl rfl (by kernel_rfl) (fun _ _ _ h => h) (Or.inl ⟨by rfl, ?_⟩) ?_ ?_
  rotate_left
  · intro w'
    go_simp
    with_reducible rfl
  rotate_left
  · simp only [Act.put, List.setIfInBounds_toArray, List.set_cons_zero, List.set_cons_succ, i64_w, i32_w]
    rfl
  refine pure_ (i := 7) (N := some 4) (v := ?_) (a' := ?_) #[true, true, true, true, true, true, true, true] rfl rfl (by kernel_rfl) (fun _ _ _ h => h) (Or.inl ⟨by rfl, ?_⟩) ?_ ?_
  rotate_left
  · intro w'
    go_simp
    with_reducible rfl
  rotate_left
  · simp only [Act.put, List.setIfInBounds_toArray, List.set_cons_zero, List.set_cons_succ, i64_w, i32_w]
    rfl
  refine done_ (by kernel_rfl) ?_

  clear hHeld x0 x1 y0 y1
  go_wp2
  go_ret
  exact ⟨rfl, HM2.out⟩

set_option maxRecDepth 100000 in
theorem delay_run (k : Nat) (bx bY : Nat) (A0 : Option Addr) (c0 : Nat) (l0 : List Int) (s0 : Int) (A1 : Option Addr) (c1 : Nat) (l1 : List Int) (s1 : Int) (t r : Int) (w : World) (hT : Two w bx bY A0 c0 l0 s0 A1 c1 l1 s1) (h : delayF k l0 s0 l1 s1 t = some r) :
    Calls Try.prog 56 #[.int .i64 t, .pointer (some ⟨bY, 0, none⟩), .pointer (some ⟨bx, 0, none⟩)] w fun e w' => e = .returned (.int .i64 r) ∧ Below w.heap.size w w' := by
  unfold delayF at h
  obtain ⟨v, h1, h⟩ := Option.bind_eq_some_iff.1 h
  obtain ⟨u, h2, h⟩ := Option.bind_eq_some_iff.1 h
  obtain rfl := Option.some.inj h
  have H1 := Aside0.mk h1
  have H2 := Aside0.mk h2
  have XB := Aside0.mk hT.hx
  have YB := Aside0.mk hT.hy
  have hc0 := Aside0.mk hT.k0
  have hc1 := Aside0.mk hT.k1
  have HR : Aside0 (∀ W, Below w.heap.size w W → Kd.C (Kd.int .i64) W A0 l0.length l0 ∧ Kd.C (Kd.int .i64) W A1 l1.length l1) := ⟨fun W hW => ⟨Kd.C_below hT.r0 hW, Kd.C_below hT.r1 hW⟩⟩
  have x0 := (blk_cell hT.hx 0).trans rfl
  have x1 := (blk_cell hT.hx 1).trans rfl
  have y0 := (blk_cell hT.hy 0).trans rfl
  have y1 := (blk_cell hT.hy 1).trans rfl
  have HM0 := Aside0.mk (below_drew (Below.refl w.heap.size w))
  clear hT h1 h2 h
  go_enter Try.func56, Try.ntmps56
  go_wp2_with fail
  refine start_ (n := 8) (S := fun w' => w'.cell? ⟨bx, 0, none⟩ = some (.slice A0 l0.length c0) ∧ w'.cell? ⟨bx, 1, none⟩ = some (.int .i64 s0) ∧ w'.cell? ⟨bY, 0, none⟩ = some (.slice A1 l1.length c1) ∧ w'.cell? ⟨bY, 1, none⟩ = some (.int .i64 s1)) (ds := []) #[false, false, false, false, false, false, false, false] (by kernel_rfl) rfl rfl ⟨x0, x1, y0, y1⟩ (fun hHeld => ?_)
  refine pure_ (i := 2) (N := some 7) (v := ?_) (a' := ?_) #[false, false, true, false, false, false, false, false] rfl rfl (by kernel_rfl) (fun _ _ _ h => h) (Or.inl ⟨by rfl, ?_⟩) ?_ ?_
  rotate_left
  · intro w'
    go_simp
    with_reducible rfl
  rotate_left
  · simp only [Act.put, List.setIfInBounds_toArray, List.set_cons_zero, List.set_cons_succ, i64_w, i32_w]
    rfl
  refine pure_ (i := 5) (N := some 10) (v := ?_) (a' := ?_) #[false, false, true, false, false, true, false, false] rfl rfl (by kernel_rfl) (fun _ _ _ h => h) (Or.inl ⟨by rfl, ?_⟩) ?_ ?_
  rotate_left
  · intro w'
    go_simp
    with_reducible rfl
  rotate_left
  · simp only [Act.put, List.setIfInBounds_toArray, List.set_cons_zero, List.set_cons_succ, i64_w, i32_w]
    rfl
  refine take_ (i := 0) (N := some 5) (v := ?_) (a' := ?_) #[true, false, true, false, false, true, false, false] rfl rfl (by kernel_rfl) (fun _ _ _ h => h) (Or.inl ⟨by rfl, ?_⟩) hHeld ?_ ?_
  rotate_left
  · rintro w' ⟨s0, s1, s2, s3⟩
    go_simp
    with_reducible rfl
  rotate_left
  · simp only [Act.put, List.setIfInBounds_toArray, List.set_cons_zero, List.set_cons_succ, i64_w, i32_w]
    rfl
  refine take_ (i := 1) (N := some 6) (v := ?_) (a' := ?_) #[true, true, true, false, false, true, false, false] rfl rfl (by kernel_rfl) (fun _ _ _ h => h) (Or.inl ⟨by rfl, ?_⟩) hHeld ?_ ?_
  rotate_left
  · rintro w' ⟨s0, s1, s2, s3⟩
    go_simp
    with_reducible rfl
  rotate_left
  · simp only [Act.put, List.setIfInBounds_toArray, List.set_cons_zero, List.set_cons_succ, i64_w, i32_w]
    rfl
  refine one_ (i := 3) (N := some 8) #[true, true, true, true, false, true, false, false] rfl rfl (by kernel_rfl) (by decide) (fun K hK => ?_)
  refine goes_ Try.func44 (by kernel_rfl) rfl #[.agg #[.slice A0 l0.length c0, .int .i64 s0], .int .i64 t] (by rfl) rfl rfl (by simp only [List.map_toArray, List.map_cons, List.map_nil] <;> rfl) ?_
  with_reducible refine (curve_curve_at.calls A0 c0 l0 s0 t v _ (HR.out _ HM0.out).1 hc0.out H1.out).mono ?_
  rintro e v1 ⟨rfl, hbl⟩
  refine ⟨_, rfl, ?_⟩
  have HM1 := Aside0.mk (below_then HM0.out HM0.out.size hbl)
  clear hbl
  refine hK.out _ _ ⟨(blk_cell (blk_below XB.out HM1.out) 0).trans rfl, (blk_cell (blk_below XB.out HM1.out) 1).trans rfl, (blk_cell (blk_below YB.out HM1.out) 0).trans rfl, (blk_cell (blk_below YB.out HM1.out) 1).trans rfl⟩ (fun hHeld => ?_)
  clear hK K
  refine norm_ (a' := ?_) ?_ ?_
  rotate_left
  · show Act.put _ (some 8) _ = _
    simp only [Act.put, List.setIfInBounds_toArray, List.set_cons_zero, List.set_cons_succ, i64_w, i32_w]
    rfl
  refine one_ (i := 4) (N := some 9) #[true, true, true, true, true, true, false, false] rfl rfl (by kernel_rfl) (by decide) (fun K hK => ?_)
  refine goes_ Try.func57 (by kernel_rfl) rfl #[.agg #[.slice A1 l1.length c1, .int .i64 s1], .int .i64 v] (by rfl) rfl rfl (by simp only [List.map_toArray, List.map_cons, List.map_nil] <;> rfl) ?_
  with_reducible refine (curve_curve_reach.calls k A1 c1 l1 s1 v u _ (HR.out _ HM1.out).2 hc1.out H2.out).mono ?_
  rintro e v2 ⟨rfl, hbl⟩
  refine ⟨_, rfl, ?_⟩
  have HM2 := Aside0.mk (below_then HM1.out HM1.out.size hbl)
  clear hbl
  refine hK.out _ _ ⟨(blk_cell (blk_below XB.out HM2.out) 0).trans rfl, (blk_cell (blk_below XB.out HM2.out) 1).trans rfl, (blk_cell (blk_below YB.out HM2.out) 0).trans rfl, (blk_cell (blk_below YB.out HM2.out) 1).trans rfl⟩ (fun hHeld => ?_)
  clear hK K
  refine norm_ (a' := ?_) ?_ ?_
  rotate_left
  · show Act.put _ (some 9) _ = _
    simp only [Act.put, List.setIfInBounds_toArray, List.set_cons_zero, List.set_cons_succ, i64_w, i32_w]
    rfl
  refine pure_ (i := 6) (N := some 11) (v := ?_) (a' := ?_) #[true, true, true, true, true, true, true, false] rfl rfl (by kernel_rfl) (fun _ _ _ h => h) (Or.inl ⟨by rfl, ?_⟩) ?_ ?_
  rotate_left
  · intro w'
    go_simp
    with_reducible rfl
  rotate_left
  · simp only [Act.put, List.setIfInBounds_toArray, List.set_cons_zero, List.set_cons_succ, i64_w, i32_w]
    rfl
  refine pure_ (i := 7) (N := some 4) (v := ?_) (a' := ?_) #[true, true, true, true, true, true, true, true] rfl rfl (by kernel_rfl) (fun _ _ _ h => h) (Or.inl ⟨by rfl, ?_⟩) ?_ ?_
  rotate_left
  · intro w'
    go_simp
    with_reducible rfl
  rotate_left
  · simp only [Act.put, List.setIfInBounds_toArray, List.set_cons_zero, List.set_cons_succ, i64_w, i32_w]
    rfl
  refine done_ (by kernel_rfl) ?_

  clear hHeld x0 x1 y0 y1
  go_wp2
  go_ret
  exact ⟨rfl, HM2.out⟩
end
end Go.Proofs.Ytanlonngekgibaa.Pr

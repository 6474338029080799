/- curve.pair, told for curves that are only read. -/
import Derived.Test.YtanlonngekgibaaF16
import Derived.Test.YtanlonngekgibaaGFnV
namespace Go.Proofs.Ytanlonngekgibaa.Pr
open Go.RowKit Go.Proofs.YtanlonngekgibaaW.PrintWords Go.Proofs.YtanlonngekgibaaW.PrintLast Go.Proofs.YtanlonngekgibaaW.PrintMore
set_option linter.unusedVariables false
set_option linter.unusedSimpArgs false
attribute [local go_sem] max2_int min2_int max_two min_two max_three min_three max_four min_four

theorem name_then {K : Act → World → Prop} {Q : Exit → Act → World → Prop} {e : Exit} {a : Act} {W : World} (h : ∀ W2, Aside0 (W = W2) → Exit.then K Q e a W2) : Exit.then K Q e a W := h W ⟨rfl⟩
theorem name_world {P : Program} {c : Code} {Q : Exit → Act → World → Prop} {a : Act} {W : World} (h : ∀ W2, Aside0 (W = W2) → Code.wp P c Q a W2) : Code.wp P c Q a W := h W ⟨rfl⟩

/-- The four variables of the call, as they lie behind the begin. -/
theorem pair_begin (w : World) (o0 o1 o2 o3 : Obj) (ba bb ra rb : Nat) (ha : ba = w.heap.size) (hb : bb = w.heap.size + 1) (hra : ra = w.heap.size + 1 + 1) (hrb : rb = w.heap.size + 1 + 1 + 1) {w1 : World}
    (h : Below ((((w.alloc o0).alloc o1).alloc o2).alloc o3).heap.size ((((w.alloc o0).alloc o1).alloc o2).alloc o3) w1) :
    Below w.heap.size w w1 ∧ w1.heap[ba]? = some o0 ∧ w1.heap[bb]? = some o1 ∧ w1.heap[ra]? = some o2 ∧ w1.heap[rb]? = some o3 ∧ ba ≠ ra ∧ bb ≠ ra ∧ ba ≠ rb ∧ bb ≠ rb ∧ ra ≠ rb ∧ w.heap.size ≤ ra ∧ w.heap.size ≤ rb := by
  subst ha hb hra hrb
  have e1 := heap_alloc_new w o0
  have e2 := heap_alloc_new (w.alloc o0) o1
  have e3 := heap_alloc_new ((w.alloc o0).alloc o1) o2
  have e4 := heap_alloc_new (((w.alloc o0).alloc o1).alloc o2) o3
  simp only [World.size_alloc] at e2 e3 e4
  refine ⟨Below.trans (by repeat (first | exact Below.refl _ _ | apply below_alloc)) (h.mono (by simp; omega)), blk_below (blk_alloc (blk_alloc (blk_alloc e1 _) _) _) h, blk_below (blk_alloc (blk_alloc e2 _) _) h, blk_below (blk_alloc e3 _) h, blk_below e4 h, by omega, by omega, by omega, by omega, by omega, by omega, by omega⟩

set_option maxHeartbeats 1000000 in
set_option maxRecDepth 100000 in
theorem pair_ok (k : Nat) (A0 : Option Addr) (c0 : Nat) (l0 : List Int) (s0 : Int) (A1 : Option Addr) (c1 : Nat) (l1 : List Int) (s1 e1 : Int) (w : World) (hr0 : Kd.C (Kd.int .i64) w A0 l0.length l0) (hk0 : l0.length ≤ c0) (hr1 : Kd.C (Kd.int .i64) w A1 l1.length l1) (hk1 : l1.length ≤ c1)
    (h0 : curve_Check.f k l0 s0 = some 0) (h1 : curve_Check.f k l1 s1 = some e1) :
    Calls Try.prog 46 #[.agg #[.slice A0 l0.length c0, .int .i64 s0], .agg #[.slice A1 l1.length c1, .int .i64 s1]] w fun e w' => e = .returned (.tuple #[.agg #[.slice A0 l0.length c0, .int .i64 s0], .agg #[.slice A1 l1.length c1, .int .i64 s1], .int .i64 e1]) ∧ Below w.heap.size w w' := by
  have HR0 := Aside0.mk hr0
  have HR1 := Aside0.mk hr1
  have hc0 := Aside0.mk hk0
  have hc1 := Aside0.mk hk1
  have H1 := Aside0.mk h0
  have H2 := Aside0.mk h1
  clear hr0 hr1 hk0 hk1 h0 h1
  go_enter Try.func46, Try.ntmps46
  go_wp2_with fail
  refine (curve_Check.calls k A0 c0 l0 s0 0 _ (Kd.C_below HR0.out (by repeat (first | exact Below.refl _ _ | apply below_alloc))) hc0.out H1.out).mono ?_
  rintro e w1 ⟨rfl, hb⟩
  obtain ⟨ba, hba⟩ : ∃ ba, ba = w.heap.size := ⟨_, rfl⟩
  obtain ⟨bb, hbb⟩ : ∃ bb, bb = w.heap.size + 1 := ⟨_, rfl⟩
  obtain ⟨ra, hra⟩ : ∃ ra, ra = w.heap.size + 1 + 1 := ⟨_, rfl⟩
  obtain ⟨rb, hrb⟩ : ∃ rb, rb = w.heap.size + 1 + 1 + 1 := ⟨_, rfl⟩
  obtain ⟨B0, B1, B2, B3, B4, N0, N1, N2, N3, N4, G2, G3⟩ := pair_begin w _ _ _ _ ba bb ra rb hba hbb hra hrb hb
  rw [← hrb, ← hra, ← hbb, ← hba]
  have HB1 := Aside0.mk B0
  have BA1 := Aside0.mk B1
  have BB1 := Aside0.mk B2
  have RA1 := Aside0.mk B3
  have RB1 := Aside0.mk B4
  have NAR := Aside0.mk N0
  have NBR := Aside0.mk N1
  have NRR := Aside0.mk N4
  have GRA := Aside0.mk G2
  have GRB := Aside0.mk G3
  have n1 : ¬ ra = rb := N4
  have n2 : ¬ rb = ra := fun e => N4 e.symm
  have x0 := (blk_cell B1 0).trans rfl
  have x1 := (blk_cell B1 1).trans rfl
  have y0 := (blk_cell B2 0).trans rfl
  have y1 := (blk_cell B2 1).trans rfl
  clear hb hba hbb hra hrb B0 B1 B2 B3 B4 N0 N1 N2 N3 N4 G2 G3
  go_wp2_with fail
  refine start_ (n := 9) (S := fun w' => w'.cell? ⟨ba, 0, none⟩ = some (.slice A0 l0.length c0) ∧ w'.cell? ⟨ba, 1, none⟩ = some (.int .i64 s0) ∧ w'.cell? ⟨bb, 0, none⟩ = some (.slice A1 l1.length c1) ∧ w'.cell? ⟨bb, 1, none⟩ = some (.int .i64 s1)) (ds := [7]) #[false, false, false, false, false, false, false, false, false] (by kernel_rfl) rfl rfl ⟨x0, x1, y0, y1⟩ (fun hHeld => ?_)
  refine take_ (i := 0) (N := some 15) (v := ?_) (a' := ?_) #[true, false, false, false, false, false, false, false, false] rfl rfl (by kernel_rfl) (fun _ _ _ h => h) (Or.inl ⟨by rfl, ?_⟩) hHeld ?_ ?_
  rotate_left
  · rintro w' ⟨s0, s1, s2, s3⟩
    go_simp
    with_reducible rfl
  rotate_left
  · simp only [Act.put, List.setIfInBounds_toArray, List.set_cons_zero, List.set_cons_succ, i64_w, i32_w]
    rfl
  refine pure_ (i := 1) (N := some 16) (v := ?_) (a' := ?_) #[true, true, false, false, false, false, false, false, false] rfl rfl (by kernel_rfl) (fun _ _ _ h => h) (Or.inl ⟨by rfl, ?_⟩) ?_ ?_
  rotate_left
  · intro w'
    go_simp
    with_reducible rfl
  rotate_left
  · simp only [Act.put, List.setIfInBounds_toArray, List.set_cons_zero, List.set_cons_succ, i64_w, i32_w]
    rfl
  refine take_ (i := 2) (N := some 17) (v := ?_) (a' := ?_) #[true, true, true, false, false, false, false, false, false] rfl rfl (by kernel_rfl) (fun _ _ _ h => h) (Or.inl ⟨by rfl, ?_⟩) hHeld ?_ ?_
  rotate_left
  · rintro w' ⟨s0, s1, s2, s3⟩
    go_simp
    with_reducible rfl
  rotate_left
  · simp only [Act.put, List.setIfInBounds_toArray, List.set_cons_zero, List.set_cons_succ, i64_w, i32_w]
    rfl
  refine pure_ (i := 3) (N := some 18) (v := ?_) (a' := ?_) #[true, true, true, true, false, false, false, false, false] rfl rfl (by kernel_rfl) (fun _ _ _ h => h) (Or.inl ⟨by rfl, ?_⟩) ?_ ?_
  rotate_left
  · intro w'
    go_simp
    with_reducible rfl
  rotate_left
  · simp only [Act.put, List.setIfInBounds_toArray, List.set_cons_zero, List.set_cons_succ, i64_w, i32_w]
    rfl
  refine take_ (i := 4) (N := some 19) (v := ?_) (a' := ?_) #[true, true, true, true, true, false, false, false, false] rfl rfl (by kernel_rfl) (fun _ _ _ h => h) (Or.inl ⟨by rfl, ?_⟩) hHeld ?_ ?_
  rotate_left
  · rintro w' ⟨s0, s1, s2, s3⟩
    go_simp
    with_reducible rfl
  rotate_left
  · simp only [Act.put, List.setIfInBounds_toArray, List.set_cons_zero, List.set_cons_succ, i64_w, i32_w]
    rfl
  refine one_ (i := 5) (N := some 20) #[true, true, true, true, true, true, false, false, false] rfl rfl (by kernel_rfl) (by decide) (fun K hK => ?_)
  refine goes_ Try.func16 (by kernel_rfl) rfl #[.agg #[.slice A1 l1.length c1, .int .i64 s1]] (by rfl) rfl rfl (by simp only [List.map_toArray, List.map_cons, List.map_nil] <;> rfl) ?_
  with_reducible refine (curve_Check.calls k A1 c1 l1 s1 e1 _ (Kd.C_below HR1.out (below_drew HB1.out)) hc1.out H2.out).mono ?_
  rintro e w3 ⟨rfl, hb3⟩
  refine ⟨_, rfl, ?_⟩
  have HB3 := Aside0.mk (Below.trans (below_drew HB1.out) (hb3.mono (show w.heap.size ≤ w1.drew.heap.size from HB1.out.size)))
  have H13 := Aside0.mk (show Below w1.heap.size w1 w3 from Below.trans (below_drew (Below.refl _ _)) hb3)
  clear hb3
  have RA3 := Aside0.mk (blk_below RA1.out H13.out)
  have RB3 := Aside0.mk (blk_below RB1.out H13.out)
  have BA3 := Aside0.mk (blk_below BA1.out H13.out)
  have BB3 := Aside0.mk (blk_below BB1.out H13.out)
  have p0 := (blk_cell RA3.out 0).trans rfl
  have p1 := (blk_cell RA3.out 1).trans rfl
  have q0 := blk_frozen RA3.out 0
  have q1 := blk_frozen RA3.out 1
  have p2 := (blk_cell RB3.out 0).trans rfl
  have p3 := (blk_cell RB3.out 1).trans rfl
  have q2 := blk_frozen RB3.out 0
  have q3 := blk_frozen RB3.out 1
  refine hK.out _ _ ⟨(blk_cell BA3.out 0).trans rfl, (blk_cell BA3.out 1).trans rfl, (blk_cell BB3.out 0).trans rfl, (blk_cell BB3.out 1).trans rfl⟩ (fun hHeld => ?_)
  clear hK K
  refine norm_ (a' := ?_) ?_ ?_
  rotate_left
  · show Act.put _ (some 20) _ = _
    simp only [Act.put, List.setIfInBounds_toArray, List.set_cons_zero, List.set_cons_succ, i64_w, i32_w]
    rfl
  refine one_ (i := 6) (N := none) #[true, true, true, true, true, true, true, false, false] rfl rfl (by kernel_rfl) (by decide) (fun K hK => ?_)
  refine skip_ (w1 := ?_) (by rfl) rfl ?_ ?_
  rotate_left
  · go_simp
    rfl
  refine hK.out _ _ ⟨(blk_cell (blk_far (blk_far BA3.out NAR.out _) NAR.out _) 0).trans rfl, (blk_cell (blk_far (blk_far BA3.out NAR.out _) NAR.out _) 1).trans rfl, (blk_cell (blk_far (blk_far BB3.out NBR.out _) NBR.out _) 0).trans rfl, (blk_cell (blk_far (blk_far BB3.out NBR.out _) NBR.out _) 1).trans rfl⟩ (fun hHeld => ?_)
  clear hK K
  refine last_ (i := 7) (N := none) #[true, true, true, true, true, true, true, true, false] rfl rfl (by kernel_rfl) (by decide) (fun K hK => ?_)
  refine skip_ (w1 := ?_) (by rfl) rfl ?_ ?_
  rotate_left
  · go_simp
    rfl
  refine hK.out _ _ ?_
  clear hK K
  refine pure_ (i := 8) (N := some 6) (v := ?_) (a' := ?_) #[true, true, true, true, true, true, true, true, true] rfl rfl (by kernel_rfl) (fun _ _ _ h => h) (Or.inl ⟨by rfl, ?_⟩) ?_ ?_
  rotate_left
  · intro w'
    go_simp
    with_reducible rfl
  rotate_left
  · simp only [Act.put, List.setIfInBounds_toArray, List.set_cons_zero, List.set_cons_succ, i64_w, i32_w]
    rfl
  refine done_ (by kernel_rfl) ?_

  go_wp2
  refine bodyPost_ret (results_list (rs := [.cell 4 57, .cell 5 57, .tmp 6]) rfl (by simp) (.cell ra 57 #[.slice A0 l0.length c0, .int .i64 s0] (0, 0) _ rfl (blk_far (blk_far (blk_put (blk_put RA3.out 0 _ rfl) 1 _ rfl) NRR.out _) NRR.out _) Try.underlying57 rfl (by kernel_rfl) (.cell rb 57 #[.slice A1 l1.length c1, .int .i64 s1] (0, 0) _ rfl (blk_put (blk_put (blk_far (blk_far RB3.out NRR.out.symm _) NRR.out.symm _) 0 _ rfl) 1 _ rfl) Try.underlying57 rfl (by kernel_rfl) (.tmp .nil)))) rfl ?_
  exact ⟨rfl, (((HB3.out.setCell (p := ⟨ra, 0, none⟩) GRA.out _).setCell (p := ⟨ra, 1, none⟩) GRA.out _).setCell (p := ⟨rb, 0, none⟩) GRB.out _).setCell (p := ⟨rb, 1, none⟩) GRB.out _⟩
set_option maxHeartbeats 1000000 in
set_option maxRecDepth 100000 in
theorem pair_bad (k : Nat) (A0 : Option Addr) (c0 : Nat) (l0 : List Int) (s0 : Int) (A1 : Option Addr) (c1 : Nat) (l1 : List Int) (s1 e0 : Int) (w : World) (hr0 : Kd.C (Kd.int .i64) w A0 l0.length l0) (hk0 : l0.length ≤ c0) (hr1 : Kd.C (Kd.int .i64) w A1 l1.length l1) (hk1 : l1.length ≤ c1)
    (h0 : curve_Check.f k l0 s0 = some e0) (hz : e0 ≠ 0) :
    Calls Try.prog 46 #[.agg #[.slice A0 l0.length c0, .int .i64 s0], .agg #[.slice A1 l1.length c1, .int .i64 s1]] w fun e w' => e = .returned (.tuple #[.agg #[.slice none 0 0, .int .i64 0], .agg #[.slice none 0 0, .int .i64 0], .int .i64 e0]) ∧ Below w.heap.size w w' := by
  have HR0 := Aside0.mk hr0
  have HR1 := Aside0.mk hr1
  have hc0 := Aside0.mk hk0
  have hc1 := Aside0.mk hk1
  have H1 := Aside0.mk h0
  have hz2 : (e0 != 0) = true := by simpa using hz
  clear hr0 hr1 hk0 hk1 h0 hz
  go_enter Try.func46, Try.ntmps46
  go_wp2_with fail
  refine (curve_Check.calls k A0 c0 l0 s0 e0 _ (Kd.C_below HR0.out (by repeat (first | exact Below.refl _ _ | apply below_alloc))) hc0.out H1.out).mono ?_
  rintro e w1 ⟨rfl, hb⟩
  obtain ⟨ba, hba⟩ : ∃ ba, ba = w.heap.size := ⟨_, rfl⟩
  obtain ⟨bb, hbb⟩ : ∃ bb, bb = w.heap.size + 1 := ⟨_, rfl⟩
  obtain ⟨ra, hra⟩ : ∃ ra, ra = w.heap.size + 1 + 1 := ⟨_, rfl⟩
  obtain ⟨rb, hrb⟩ : ∃ rb, rb = w.heap.size + 1 + 1 + 1 := ⟨_, rfl⟩
  obtain ⟨B0, B1, B2, B3, B4, N0, N1, N2, N3, N4, G2, G3⟩ := pair_begin w _ _ _ _ ba bb ra rb hba hbb hra hrb hb
  rw [← hrb, ← hra, ← hbb, ← hba]
  have HB1 := Aside0.mk B0
  have BA1 := Aside0.mk B1
  have BB1 := Aside0.mk B2
  have RA1 := Aside0.mk B3
  have RB1 := Aside0.mk B4
  have NAR := Aside0.mk N0
  have NBR := Aside0.mk N1
  have NRR := Aside0.mk N4
  have GRA := Aside0.mk G2
  have GRB := Aside0.mk G3
  have n1 : ¬ ra = rb := N4
  have n2 : ¬ rb = ra := fun e => N4 e.symm
  have p0 := (blk_cell B3 0).trans rfl
  have p1 := (blk_cell B3 1).trans rfl
  have q0 := blk_frozen B3 0
  have q1 := blk_frozen B3 1
  have p2 := (blk_cell B4 0).trans rfl
  have p3 := (blk_cell B4 1).trans rfl
  have q2 := blk_frozen B4 0
  have q3 := blk_frozen B4 1
  clear hb hba hbb hra hrb B0 B1 B2 B3 B4 N0 N1 N2 N3 N4 G2 G3
  go_wp2
  refine bodyPost_ret (results_list (rs := [.cell 4 57, .cell 5 57, .tmp 6]) rfl (by simp) (.cell ra 57 #[.slice none 0 0, .int .i64 0] (0, 0) _ rfl (blk_far (blk_far (blk_put (blk_put RA1.out 0 _ rfl) 1 _ rfl) NRR.out _) NRR.out _) Try.underlying57 rfl (by kernel_rfl) (.cell rb 57 #[.slice none 0 0, .int .i64 0] (0, 0) _ rfl (blk_put (blk_put (blk_far (blk_far RB1.out NRR.out.symm _) NRR.out.symm _) 0 _ rfl) 1 _ rfl) Try.underlying57 rfl (by kernel_rfl) (.tmp .nil)))) rfl ?_
  exact ⟨rfl, (((HB1.out.setCell (p := ⟨ra, 0, none⟩) GRA.out _).setCell (p := ⟨ra, 1, none⟩) GRA.out _).setCell (p := ⟨rb, 0, none⟩) GRB.out _).setCell (p := ⟨rb, 1, none⟩) GRB.out _⟩
end Go.Proofs.Ytanlonngekgibaa.Pr

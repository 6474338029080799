-- Written by pp.py, a program of this session, over the translation of the given program; a machine's text: Lean checks it.
import Derived.Test.YtanlonngekgibaaGShort
import Derived.Test.YtanlonngekgibaaF64
namespace Go.Proofs.Ytanlonngekgibaa.Pr
open Go.RowKit Go.Proofs.YtanlonngekgibaaW.PrintWords Go.Proofs.YtanlonngekgibaaW.PrintLast Go.Proofs.YtanlonngekgibaaW.PrintMore
attribute [local go_sem] max2_int min2_int max_two min_two max_three min_three max_four min_four   -- for this text's walks alone
set_option linter.unusedVariables false
set_option linter.unusedSimpArgs false

/-! ### curve_curve_at: function 44 -/
def curve_curve_at.f (l0_0 : List Int) (a0_1 : Int) (a1 : Int) : Option (Int) := if a1 < (l0_0.length : Int) then (if 0 ≤ a1 then (some (rd l0_0 a1)) else (none)) else (if 0 ≤ (wrap64 ((l0_0.length : Int) - 1)) then (if (wrap64 ((l0_0.length : Int) - 1)) < (l0_0.length : Int) then ((curve_line_at.f (rd l0_0 (wrap64 ((l0_0.length : Int) - 1))) a0_1 (wrap64 ((wrap64 (a1 - (l0_0.length : Int))) + 1))).bind fun t114 => (some t114)) else (none)) else (none))
def curve_curve_at.T4 : Bool × List (List Nat × List Nat) := (true, [([], []), ([0], [0]), ([1], [1]), ([], []), ([3], [3]), ([2, 4], [2, 4]), ([5], [5]), ([], []), ([7], [7]), ([8], [8]), ([6, 9], [6, 9]), ([], []), ([], []), ([11, 12], [11, 12]), ([13], [13]), ([10, 14], [10, 14]), ([15, 15, 0, 1, 2, 3, 4, 5, 6, 7, 8, 9, 10, 11, 12, 13, 14, 15], [15])])
def curve_curve_at.B4 : List Nat := [0, 1, 3, 0, 8, 31, 63, 0, 128, 384, 1023, 0, 0, 6144, 14336, 32767, 65535]
theorem curve_curve_at.tab4 : rtab .any (opsOf Try.f44 4) = curve_curve_at.T4 := by kernel_rfl
theorem curve_curve_at.bits4 : waitsOk curve_curve_at.T4.2 curve_curve_at.B4 = true := by kernel_rfl
set_option maxHeartbeats 8000000 in
set_option maxRecDepth 100000 in
theorem curve_curve_at.calls (A0_0 : Option Addr) (c0_0 : Nat) (l0_0 : List Int) (a0_1 : Int) (a1 : Int) (r : Int) (w : World) (hr0_0 : Kd.C (Kd.int .i64) w A0_0 l0_0.length l0_0) (hc0_0 : l0_0.length ≤ c0_0) (h : curve_curve_at.f l0_0 a0_1 a1 = some r) :
  Calls Try.prog 44 #[.agg #[.slice A0_0 l0_0.length c0_0, .int .i64 a0_1], .int .i64 a1] w fun e w' => e = .returned (.int .i64 r) ∧ Below w.heap.size w w' := by
 have hu57 := Try.underlying57
 have hu64 := Try.underlying64
 have HR0_0 := Aside0.mk hr0_0
 have HC0_0 := Aside0.mk hc0_0
 clear hr0_0 hc0_0
 have HB := Aside0.mk (Below.refl w.heap.size w)
 have H : (if a1 < (l0_0.length : Int) then (if 0 ≤ a1 then (some (rd l0_0 a1)) else (none)) else (if 0 ≤ (wrap64 ((l0_0.length : Int) - 1)) then (if (wrap64 ((l0_0.length : Int) - 1)) < (l0_0.length : Int) then ((curve_line_at.f (rd l0_0 (wrap64 ((l0_0.length : Int) - 1))) a0_1 (wrap64 ((wrap64 (a1 - (l0_0.length : Int))) + 1))).bind fun t114 => (some t114)) else (none)) else (none))) = some r := h
 clear h
 by_cases c3 : a1 < (l0_0.length : Int)
 ·rw [if_pos c3] at H
  have c3b0 : decide (a1 < (l0_0.length : Int)) = true := decide_eq_true c3
  clear c3
  by_cases c4 : 0 ≤ a1
  ·rw [if_pos c4] at H
   have c4b0 : decide (0 ≤ a1) = true := decide_eq_true c4
   clear c4
   obtain rfl := Option.some.inj H
   go_enter Try.func44, Try.ntmps44
   go_wp2_with (first | ((with_reducible refine gate_dst (N := 2) rfl ?_); refine box_event ?hg (N := 2) ?hd (cs := #[.slice A0_0 l0_0.length c0_0, .int .i64 a0_1]) (t := 57) ?hr ?_; (case hd => rfl); (case hg => rfl); (case hr => first | (go_simp; done) | (go_simp; rfl)); intro gb111 hg w5 hbox hb; have n0_ := Aside0.mk (below_step (qW HB.out) hb); have n1_ := Aside0.mk (hbox); have n2_ := Aside0.mk ((by rw [hg]; exact (below_size (qW HB.out)) : w.heap.size ≤ gb111)); have n3_ := Aside0.mk ((by rw [hg]; exact (below_size (qW HB.out)) : w.heap.size ≤ gb111)); clear HB; have HB := n0_; have BK111 := n1_; have GW111 := n2_; have GE111 := n3_; clear n0_ n1_ n2_ n3_ hb hbox hg; have hcz6_0 : w5.cell? ⟨gb111, 0, none⟩ = some (.slice A0_0 l0_0.length c0_0) := (blk_cell BK111.out 0).trans rfl; have hcz6_1 : w5.cell? ⟨gb111, 1, none⟩ = some (.int .i64 a0_1) := (blk_cell BK111.out 1).trans rfl; have hfz6_0 := blk_frozen BK111.out 0; have hfz6_1 := blk_frozen BK111.out 1; have p112 : 0 ≤ (a1 : Int) := of_decide_eq_true (by first | (with_reducible assumption) | assumption); have q112 : a1 < (l0_0.length : Int) := of_decide_eq_true (by first | (with_reducible assumption) | assumption); obtain ⟨ad112, e112, hx112_0⟩ := Kd.at_int HR0_0.out a1 p112 q112; cases e112; replace hx112_0 := (HB.out.cell (World.block_lt_of_cell? w _ hx112_0)).trans hx112_0; replace p112 := eq_true p112; replace q112 := eq_true q112))
   go_ret
   exact ⟨by first | rfl | (simp [errW_none, errW_some] <;> rfl) | (simp [*, errW_none, errW_some] <;> rfl), by repeat (first | (with_reducible first | exact HB.out | apply below_alloc | apply pw_below_drewN | apply below_drew1 | refine below_set ?_ GE111.out) | exact HB.out)⟩
  ·rw [if_neg c4] at H
   exact absurd H (by simp)
 ·rw [if_neg c3] at H
  have c3b0 : decide (a1 < (l0_0.length : Int)) = false := decide_eq_false c3
  clear c3
  obtain ⟨ji7, hji7⟩ : ∃ j_ : Int, (wrap64 ((l0_0.length : Int) - 1)) = j_ := ⟨_, rfl⟩
  replace H : (if 0 ≤ (ji7) then (if (ji7) < (l0_0.length : Int) then ((curve_line_at.f (rd l0_0 (ji7)) a0_1 (wrap64 ((wrap64 (a1 - (l0_0.length : Int))) + 1))).bind fun t114 => (some t114)) else (none)) else (none)) = some r := by first | (rw [hji7] at H; exact H) | (simp only [hji7] at H ⊢; exact H)
  have hji7w : (IntKind.i64.wrap ((l0_0.length : Int) - 1)) = ji7 := (i64_w _).trans hji7
  by_cases c8 : 0 ≤ (ji7)
  case neg =>
   rw [if_neg c8] at H
   exact absurd H (by simp)

  rw [if_pos c8] at H
  have c8b0 : decide (0 ≤ (ji7)) = true := decide_eq_true c8
  clear c8
  by_cases c9 : (ji7) < (l0_0.length : Int)
  case neg =>
   rw [if_neg c9] at H
   exact absurd H (by simp)
  rw [if_pos c9] at H
  have c9b0 : decide ((ji7) < (l0_0.length : Int)) = true := decide_eq_true c9
  clear c9
  replace H := Option.bind_eq_some_iff.mp H
  obtain ⟨t114, A100, H⟩ := H
  replace H : (some t114) = some r := H
  have A10 := Aside0.mk A100
  clear A100
  obtain rfl := Option.some.inj H
  go_enter Try.func44, Try.ntmps44
  try go_wp2_with (first | ((with_reducible refine gate_dst (N := 2) rfl ?_); refine box_event ?hg (N := 2) ?hd (cs := #[.slice A0_0 l0_0.length c0_0, .int .i64 a0_1]) (t := 57) ?hr ?_; (case hd => rfl); (case hg => rfl); (case hr => first | (go_simp; done) | (go_simp; rfl)); intro gb111 hg w11 hbox hb; have n0_ := Aside0.mk (below_step (qW HB.out) hb); have n1_ := Aside0.mk (hbox); have n2_ := Aside0.mk ((by rw [hg]; exact (below_size (qW HB.out)) : w.heap.size ≤ gb111)); have n3_ := Aside0.mk ((by rw [hg]; exact (below_size (qW HB.out)) : w.heap.size ≤ gb111)); clear HB; have HB := n0_; have BK111 := n1_; have GW111 := n2_; have GE111 := n3_; clear n0_ n1_ n2_ n3_ hb hbox hg; have hcz12_0 : w11.cell? ⟨gb111, 0, none⟩ = some (.slice A0_0 l0_0.length c0_0) := (blk_cell BK111.out 0).trans rfl; have hcz12_1 : w11.cell? ⟨gb111, 1, none⟩ = some (.int .i64 a0_1) := (blk_cell BK111.out 1).trans rfl; have hfz12_0 := blk_frozen BK111.out 0; have hfz12_1 := blk_frozen BK111.out 1))
  have n0_ := Aside0.mk (blk_drew BK111.out)
  have n1_ := Aside0.mk (below_drew1 HB.out)
  clear BK111 HB
  have BK111 := n0_
  have HB := n1_
  clear n0_ n1_
  have p113 : 0 ≤ ((ji7) : Int) := of_decide_eq_true (by first | (with_reducible assumption) | assumption)
  have q113 : (ji7) < (l0_0.length : Int) := of_decide_eq_true (by first | (with_reducible assumption) | assumption)
  obtain ⟨ad113, e113, hx113_0⟩ := Kd.at_int HR0_0.out (ji7) p113 q113
  have hw113_0 := hx113_0
  cases e113
  replace hx113_0 := (HB.out.cell (World.block_lt_of_cell? w _ hx113_0)).trans hx113_0
  replace p113 := eq_true p113
  replace q113 := eq_true q113
  refine start_ (n := 17) (S := fun w' => w'.cell? ⟨gb111, 0, none⟩ = some (.slice (some ad113) l0_0.length c0_0) ∧ w'.cell? ⟨gb111, 1, none⟩ = some (.int .i64 a0_1) ∧ w'.cell? (ad113.add ((ji7)).toNat) = some (.int .i64 (rd l0_0 (ji7)))) (ds := []) #[false, false, false, false, false, false, false, false, false, false, false, false, false, false, false, false, false] (by kernel_rfl) rfl rfl ⟨(blk_cell BK111.out 0).trans rfl, (blk_cell BK111.out 1).trans rfl, ((HB.out.cell (World.block_lt_of_cell? w _ hw113_0)).trans hw113_0)⟩ (fun hHeld => ?_); refine with_tabW curve_curve_at.tab4 curve_curve_at.bits4 (fun HT_ HW_ => ?_)
  generalize w11.drew = w13 at BK111 HB hx113_0 hHeld ⊢
  refine pS (i := 0) (N := some 19) #[true, false, false, false, false, false, false, false, false, false, false, false, false, false, false, false, false] rfl rfl HT_.out ?_
  refine pS (i := 1) (N := some 20) #[true, true, false, false, false, false, false, false, false, false, false, false, false, false, false, false, false] rfl rfl HT_.out ?_
  refine pS (i := 3) (N := some 22) #[true, true, false, true, false, false, false, false, false, false, false, false, false, false, false, false, false] rfl rfl HT_.out ?_
  refine pS (i := 4) (N := some 23) #[true, true, false, true, true, false, false, false, false, false, false, false, false, false, false, false, false] rfl rfl HT_.out ?_
  refine pS (i := 7) (N := some 26) #[true, true, false, true, true, false, false, true, false, false, false, false, false, false, false, false, false] rfl rfl HT_.out ?_
  refine pS (i := 8) (N := some 27) #[true, true, false, true, true, false, false, true, true, false, false, false, false, false, false, false, false] rfl rfl HT_.out ?_
  refine pS (i := 11) (N := some 30) #[true, true, false, true, true, false, false, true, true, false, false, true, false, false, false, false, false] rfl rfl HT_.out ?_
  refine pS (i := 12) (N := some 31) #[true, true, false, true, true, false, false, true, true, false, false, true, true, false, false, false, false] rfl rfl HT_.out ?_
  refine pS (i := 13) (N := some 32) #[true, true, false, true, true, false, false, true, true, false, false, true, true, true, false, false, false] rfl rfl HT_.out ?_
  refine pS (i := 14) (N := some 33) #[true, true, false, true, true, false, false, true, true, false, false, true, true, true, true, false, false] rfl rfl HT_.out ?_
  refine take_ (i := 2) (N := some 21) (v := ?_) (a' := ?_) #[true, true, true, true, true, false, false, true, true, false, false, true, true, true, true, false, false] rfl rfl (take_ofW HT_.out HW_.out (by kernel_rfl)) (fun _ _ _ h => h) (Or.inl ⟨by rfl, ?_⟩) hHeld ?_ ?_; rotate_left
  ·rintro w' ⟨s0, s1, s2⟩
   go_simp
   with_reducible rfl
  rotate_left
  ·simp only [Act.put, List.setIfInBounds_toArray, List.set_cons_zero, List.set_cons_succ, i64_w, i32_w]
   rfl
  refine pS (i := 5) (N := some 24) #[true, true, true, true, true, true, false, true, true, false, false, true, true, true, true, false, false] rfl rfl HT_.out ?_
  refine take_ (i := 6) (N := some 25) (v := ?_) (a' := ?_) #[true, true, true, true, true, true, true, true, true, false, false, true, true, true, true, false, false] rfl rfl (take_ofW HT_.out HW_.out (by kernel_rfl)) (fun _ _ _ h => h) (Or.inl ⟨by rfl, ?_⟩) hHeld ?_ ?_; rotate_left
  ·rintro w' ⟨s0, s1, s2⟩
   go_simp
   with_reducible rfl
  rotate_left
  ·simp only [Act.put, List.setIfInBounds_toArray, List.set_cons_zero, List.set_cons_succ, i64_w, i32_w]
   rfl
  refine take_ (i := 9) (N := some 28) (v := ?_) (a' := ?_) #[true, true, true, true, true, true, true, true, true, true, false, true, true, true, true, false, false] rfl rfl (take_ofW HT_.out HW_.out (by kernel_rfl)) (fun _ _ _ h => h) (Or.inl ⟨by rfl, ?_⟩) hHeld ?_ ?_; rotate_left
  ·rintro w' ⟨s0, s1, s2⟩
   go_simp
   with_reducible rfl
  rotate_left
  ·simp only [Act.put, List.setIfInBounds_toArray, List.set_cons_zero, List.set_cons_succ, i64_w, i32_w]
   rfl
  refine pS (i := 10) (N := some 29) #[true, true, true, true, true, true, true, true, true, true, true, true, true, true, true, false, false] rfl rfl HT_.out ?_
  refine one_ (i := 15) (N := some 34) #[true, true, true, true, true, true, true, true, true, true, true, true, true, true, true, true, false] rfl rfl (one_of HT_.out (by kernel_rfl)) (by decide) (fun K hK => ?_)
  refine goes_ Try.func64 (by kernel_rfl) rfl #[.agg #[.int .i64 (rd l0_0 (ji7)), .int .i64 a0_1], .int .i64 (wrap64 ((wrap64 (a1 - (l0_0.length : Int))) + 1))] (by rfl) rfl rfl (by (try simp only [List.map_toArray, List.map_cons, List.map_nil]); first | done | (simp only [hji7]; rfl) | rfl | (simp only [List.length_drop, List.length_take]; rfl)) ?_
  with_reducible refine (curve_line_at.calls (rd l0_0 (ji7)) a0_1 (wrap64 ((wrap64 (a1 - (l0_0.length : Int))) + 1)) t114 _ A10.out).mono ?_
  rintro e w14 ⟨rfl, hb⟩
  refine ⟨_, rfl, ?_⟩
  have n0_ := Aside0.mk (blk_below (qB BK111.out) hb)
  have n1_ := Aside0.mk (below_step (qW HB.out) hb)
  clear BK111 HB
  have BK111 := n0_
  have HB := n1_
  clear n0_ n1_
  (try clear hb); (try clear hb2); (try clear hk); (try clear hi)
  refine hK.out _ _ ⟨(blk_cell BK111.out 0).trans rfl, (blk_cell BK111.out 1).trans rfl, ((HB.out.cell (World.block_lt_of_cell? w _ hw113_0)).trans hw113_0)⟩ (fun hHeld => ?_); clear hK K
  refine norm_ (a' := ?_) ?_ ?_; rotate_left
  ·show Act.put _ (some 34) _ = _
   simp only [Act.put, List.setIfInBounds_toArray, List.set_cons_zero, List.set_cons_succ, i64_w, i32_w]
   rfl
  refine pS (i := 16) (N := some 4) #[true, true, true, true, true, true, true, true, true, true, true, true, true, true, true, true, true] rfl rfl HT_.out ?_
  refine done_ (done_of HT_.out (by kernel_rfl)) ?_
  try go_wp2
  go_ret
  exact ⟨by first | rfl | (simp [errW_none, errW_some] <;> rfl) | (simp only [← hji7]; first | rfl | (simp [errW_none, errW_some] <;> rfl)) | (simp [*, errW_none, errW_some] <;> rfl), by repeat (first | (with_reducible first | exact HB.out | apply below_alloc | apply pw_below_drewN | apply below_drew1 | refine below_set ?_ GE111.out) | exact HB.out)⟩
end Go.Proofs.Ytanlonngekgibaa.Pr

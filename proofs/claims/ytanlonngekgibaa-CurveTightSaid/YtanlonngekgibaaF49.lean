-- Written by pp.py, a program of this session, over the translation of the given program; a machine's text: Lean checks it.
import Derived.Test.YtanlonngekgibaaGShort
import Derived.Test.YtanlonngekgibaaGFnV
namespace Go.Proofs.Ytanlonngekgibaa.Pr
open Go.RowKit Go.Proofs.YtanlonngekgibaaW.PrintWords Go.Proofs.YtanlonngekgibaaW.PrintLast Go.Proofs.YtanlonngekgibaaW.PrintMore
attribute [local go_sem] max2_int min2_int max_two min_two max_three min_three max_four min_four   -- for this text's walks alone
set_option linter.unusedVariables false
set_option linter.unusedSimpArgs false

/-! ### curve_made: function 49 -/
def curve_made.l0 (F2 : Int → Option Int) : Nat → Int → Int → Int → List Int → Int → Option (List Int × Int × Int)
 | 0, _, _, _, _, _ => none
 | k + 1, x1, x16, x17, x132000, x132001 => if x17 < x16 then ((F2 x17).bind fun t132 => (if t132 > 1073741824 then (some (([] : List Int), 0, 2)) else (if x132000.length < 17592186044416 then (curve_made.l0 F2 k x1 x16 (wrap64 (x17 + 1)) (x132000 ++ [t132]) x132001) else (none)))) else (if x1 > 1073741824 then (some (([] : List Int), 0, 2)) else (some (x132000, x132001, 0)))
def curve_made.f (k : Nat) (a0 : Int) (a1 : Int) (F2 : Int → Option Int) : Option (List Int × Int × Int) := if a0 > 4096 then (some (([] : List Int), 0, 5)) else (curve_made.l0 F2 k a1 a0 0 ([] : List Int) a1)
theorem curve_made.mono_l (F2 : Int → Option Int) : ∀ k, (∀ y0 y1 y2 y3 y4, LeO (curve_made.l0 F2 k y0 y1 y2 y3 y4) (curve_made.l0 F2 (k + 1) y0 y1 y2 y3 y4))
 | 0 => fun _ _ _ _ _ r h => by simp [curve_made.l0] at h
 | k + 1 => by
  have ih0 := curve_made.mono_l F2 k
  ·intro y0 y1 y2 y3 y4
   unfold curve_made.l0
   repeat' first
   | (with_reducible exact ih0 _ _ _ _ _)
   | (with_reducible exact LeO.refl _)
   | (with_reducible exact LeO.none _)
   | (with_reducible refine LeO.ite ?_ ?_)
   | (with_reducible refine LeO.bind ?_ (fun _ => ?_))
   | exact ih0 _ _ _ _ _
   | exact LeO.none _
   | refine LeO.ite ?_ ?_
   | refine LeO.bind ?_ (fun _ => ?_)
theorem curve_made.mono : ∀ a0 a1 a2 k, LeO (curve_made.f k a0 a1 a2) (curve_made.f (k + 1) a0 a1 a2) := by
 intro a0 a1 a2 k
 have ih0 := curve_made.mono_l a2 k
 unfold curve_made.f
 repeat' first
   | (with_reducible exact ih0 _ _ _ _ _)
   | (with_reducible exact LeO.refl _)
   | (with_reducible exact LeO.none _)
   | (with_reducible refine LeO.ite ?_ ?_)
   | (with_reducible refine LeO.bind ?_ (fun _ => ?_))
   | exact ih0 _ _ _ _ _
   | exact LeO.none _
   | refine LeO.ite ?_ ?_
   | refine LeO.bind ?_ (fun _ => ?_)
set_option maxHeartbeats 8000000 in
set_option maxRecDepth 100000 in
theorem curve_made.calls (k : Nat) (a0 : Int) (a1 : Int) (g2 : Nat) (fs2 cs2 : Array Value) (F2 : Int → Option Int) (r1 : List Int) (r2 : Int) (r3 : Int) (w : World) (he2 : FnOk Try.prog g2) (hf2 : ∀ (x0 r : Int) (W : World), Below w.heap.size w W → F2 x0 = some r → Calls Try.prog g2 (fs2 ++ #[.int .i64 x0] ++ cs2) W fun e w' => e = .returned (.int .i64 r) ∧ Below W.heap.size W w') (h : curve_made.f k a0 a1 F2 = some (r1, r2, r3)) :
  Calls Try.prog 49 #[.int .i64 a0, .int .i64 a1, .func (.func g2) fs2 cs2] w fun e w' => ∃ v0_ : Value, e = .returned (.tuple #[.agg #[v0_, .int .i64 r2], .int .i64 r3]) ∧ Kd.R (Kd.int .i64) 3 w' w.heap.size (fun _ => True) v0_ r1 ∧ Below w.heap.size w w' := by
 have HE2 := Aside0.mk he2
 have HF2 := Aside0.mk hf2
 clear he2 hf2
 have hu24 := Try.underlying24
 have HB := Aside0.mk (Below.refl w.heap.size w)
 have H : (if a0 > 4096 then (some (([] : List Int), 0, 5)) else (curve_made.l0 F2 k a1 a0 0 ([] : List Int) a1)) = some (r1, r2, r3) := h
 clear h
 by_cases c4 : a0 > 4096
 ·rw [if_pos c4] at H
  have c4b0 : decide (4096 < a0) = true := decide_eq_true c4
  clear c4
  simp only [Option.some.injEq, Prod.mk.injEq] at H
  obtain ⟨rfl, rfl, rfl⟩ := H
  go_enter Try.func49, Try.ntmps49
  go_wp2_with (first | ((with_reducible refine gate_dst (N := 6) rfl ?_); refine box_event ?hg (N := 6) ?hd (cs := #[.slice none 0 0, .int .i64 0]) (t := 24) ?hr ?_; (case hd => rfl); (case hg => rfl); (case hr => first | (go_simp; done) | (go_simp; rfl)); intro gb130 hg w5 hbox hb; have n0_ := Aside0.mk (below_step (qW HB.out) hb); have n1_ := Aside0.mk (hbox); have n2_ := Aside0.mk ((by rw [hg]; exact (below_size (qW HB.out)) : w.heap.size ≤ gb130)); have n3_ := Aside0.mk ((by rw [hg]; exact (below_size (qW HB.out)) : w.heap.size ≤ gb130)); clear HB; have HB := n0_; have BK130 := n1_; have GW130 := n2_; have GE130 := n3_; clear n0_ n1_ n2_ n3_ hb hbox hg; have hcz6_0 : w5.cell? ⟨gb130, 0, none⟩ = some (.slice none 0 0) := (blk_cell BK130.out 0).trans rfl; have hcz6_1 : w5.cell? ⟨gb130, 1, none⟩ = some (.int .i64 0) := (blk_cell BK130.out 1).trans rfl; have hfz6_0 := blk_frozen BK130.out 0; have hfz6_1 := blk_frozen BK130.out 1))
  refine bodyPost_ret (results_ct rfl _ _ gb130 24 #[.slice none 0 0, .int .i64 0] (0, 0) _ rfl (by (with_reducible repeat (first | refine blk_drewN ?_ _ | refine blk_drew ?_ | refine blk_alloc ?_ _)); refine blk_put (cs := #[.slice none 0 0, .int .i64 0]) ?_ 1 _ rfl; (with_reducible repeat (first | refine blk_drewN ?_ _ | refine blk_drew ?_ | refine blk_alloc ?_ _)); refine blk_put (cs := #[.slice none 0 0, .int .i64 0]) ?_ 0 _ rfl; exact qB BK130.out) Try.underlying24 rfl (by kernel_rfl)) rfl ?_
  exact ⟨_, by first | rfl | (simp [errW_none, errW_some] <;> rfl) | (simp [*, errW_none, errW_some] <;> rfl), by first | exact Kd.R_nil _ _ _ _ _ | exact Kd.N_nil _ _ _ _ _ | exact Kd.V_nil _ _ _ _ _ | exact Kd.Q_nil _ _ _ _ _ | exact Kd.S_nil _ _ _ _ _, by repeat (first | (with_reducible first | exact HB.out | apply below_alloc | apply pw_below_drewN | apply below_drew1 | refine below_set ?_ GE130.out) | exact HB.out)⟩
 ·rw [if_neg c4] at H
  have c4b0 : decide (4096 < a0) = false := decide_eq_false c4
  clear c4
  have H' := Aside0.mk H
  clear H
  go_enter Try.func49, Try.ntmps49
  go_wp2_with (first | ((with_reducible refine gate_dst (N := 6) rfl ?_); refine box_event ?hg (N := 6) ?hd (cs := #[.slice none 0 0, .int .i64 0]) (t := 24) ?hr ?_; (case hd => rfl); (case hg => rfl); (case hr => first | (go_simp; done) | (go_simp; rfl)); intro gb130 hg w7 hbox hb; have n0_ := Aside0.mk (below_step (qW HB.out) hb); have n1_ := Aside0.mk (hbox); have n2_ := Aside0.mk ((by rw [hg]; exact (below_size (qW HB.out)) : w.heap.size ≤ gb130)); have n3_ := Aside0.mk ((by rw [hg]; exact (below_size (qW HB.out)) : w.heap.size ≤ gb130)); clear HB; have HB := n0_; have BK130 := n1_; have GW130 := n2_; have GE130 := n3_; clear n0_ n1_ n2_ n3_ hb hbox hg) | ((with_reducible refine gate_dst (N := 8) rfl ?_); refine box_event ?hg (N := 8) ?hd (cs := #[.slice none 0 0, .int .i64 0]) (t := 24) ?hr ?_; (case hd => rfl); (case hg => rfl); (case hr => first | (go_simp; done) | (go_simp; rfl)); intro gb131 hg w8 hbox hb; have n0_ := Aside0.mk (blk_below (qB BK130.out) hb); have n1_ := Aside0.mk (below_step (qW HB.out) hb); have n2_ := Aside0.mk (hbox); have n3_ := Aside0.mk ((by rw [hg]; exact (below_size (qW HB.out)) : w.heap.size ≤ gb131)); have n4_ := Aside0.mk ((by rw [hg]; exact (below_size (qW HB.out)) : w.heap.size ≤ gb131)); have n5_ := Aside0.mk ((by rw [hg]; exact Nat.ne_of_lt (blk_lt (qB BK130.out)) : gb130 ≠ gb131)); have n6_ := Aside0.mk ((by rw [hg]; exact Nat.ne_of_gt (blk_lt (qB BK130.out)) : gb131 ≠ gb130)); clear BK130 HB; have BK130 := n0_; have HB := n1_; have BK131 := n2_; have GW131 := n3_; have GE131 := n4_; have NB130_131 := n5_; have NB131_130 := n6_; clear n0_ n1_ n2_ n3_ n4_ n5_ n6_ hb hbox hg; have hnb9 := NB131_130.out; have hnc9 := NB130_131.out; have hcz10_0 : w8.cell? ⟨gb131, 0, none⟩ = some (.slice none 0 0) := (blk_cell BK131.out 0).trans rfl; have hcz10_1 : w8.cell? ⟨gb131, 1, none⟩ = some (.int .i64 0) := (blk_cell BK131.out 1).trans rfl; have hfz10_0 := blk_frozen BK131.out 0; have hfz10_1 := blk_frozen BK131.out 1))
  go_loopg [17] k (fun kq v17 w' => ∃ (x17_1 : Int) (x131001_1 : Int) (x132000_1 : List Int) (u132000 : Value), v17 = .int .i64 x17_1 ∧ Aside0 (curve_made.l0 F2 kq a1 a0 x17_1 x132000_1 a1 = some (r1, r2, r3)) ∧ Aside0 (kq ≤ k) ∧ Aside0 (Kd.R (Kd.int .i64) 3 w' w.heap.size (fun _ => True) u132000 x132000_1) ∧ Aside0 (w'.heap[gb130]? = some (.cells #[(.slice none 0 0), .int .i64 x131001_1] 24 (0, 0))) ∧ Aside0 (w'.heap[gb131]? = some (.cells #[u132000, .int .i64 a1] 24 (0, 0))) ∧ Aside0 (Below w.heap.size w w'))
  case atStart => exact ⟨(0), (0), (([] : List Int)), (.slice none 0 0), (by first | rfl | (simp; done) | (simp [*]; done)), H', ⟨Nat.le_refl _⟩, ⟨by first | exact Kd.R_nil _ _ _ _ _ | exact Kd.N_nil _ _ _ _ _ | exact Kd.V_nil _ _ _ _ _ | exact Kd.Q_nil _ _ _ _ _ | exact Kd.S_nil _ _ _ _ _⟩, ⟨by (with_reducible repeat (first | refine blk_drewN ?_ _ | refine blk_drew ?_ | refine blk_alloc ?_ _)); refine blk_far ?_ NB130_131.out _; (with_reducible repeat (first | refine blk_drewN ?_ _ | refine blk_drew ?_ | refine blk_alloc ?_ _)); refine blk_far ?_ NB130_131.out _; exact qB BK130.out⟩, ⟨by (with_reducible repeat (first | refine blk_drewN ?_ _ | refine blk_drew ?_ | refine blk_alloc ?_ _)); refine blk_put (cs := #[.slice none 0 0, .int .i64 0]) ?_ 1 _ rfl; (with_reducible repeat (first | refine blk_drewN ?_ _ | refine blk_drew ?_ | refine blk_alloc ?_ _)); refine blk_put (cs := #[.slice none 0 0, .int .i64 0]) ?_ 0 _ rfl; exact qB BK131.out⟩, ⟨by repeat (first | (with_reducible first | exact HB.out | apply below_alloc | apply pw_below_drewN | apply below_drew1 | refine below_set ?_ GE130.out | refine below_set ?_ GE131.out) | exact HB.out)⟩⟩
  case round =>
   clear H'
   try clear p2
   try clear c4
   try clear c4b0
   try clear c9
   try clear hcz10_0
   try clear hcz10_1
   try clear hcz6_0
   try clear hcz6_1
   try clear hfz10_0
   try clear hfz10_1
   try clear hfz6_0
   try clear hfz6_1
   obtain ⟨x17_1, x131001_1, x132000_1, u132000, rfl, HA, HK1, HO_132000, BK130, BK131, HB⟩ := hrel
   cases gk with
   | zero => exact absurd HA.out (by simp [curve_made.l0])
   | succ k1 =>
    have H := HA.out
    clear HA
    simp only [curve_made.l0] at H
    by_cases c11 : x17_1 < a0
    ·rw [if_pos c11] at H
     have c11b0 : decide (x17_1 < a0) = true := decide_eq_true c11
     clear c11
     replace H := Option.bind_eq_some_iff.mp H
     obtain ⟨t132, A120, H⟩ := H
     replace H : (if t132 > 1073741824 then (some (([] : List Int), 0, 2)) else (if x132000_1.length < 17592186044416 then (curve_made.l0 F2 k1 a1 a0 (wrap64 (x17_1 + 1)) (x132000_1 ++ [t132]) a1) else (none))) = some (r1, r2, r3) := H
     have A12 := Aside0.mk A120
     clear A120
     by_cases c13 : t132 > 1073741824
     ·rw [if_pos c13] at H
      have c13b0 : decide (1073741824 < t132) = true := decide_eq_true c13
      clear c13
      simp only [Option.some.injEq, Prod.mk.injEq] at H
      obtain ⟨rfl, rfl, rfl⟩ := H
      go_wp2_with (first | ((with_reducible refine gate_dst (N := 22) rfl ?_); refine goesF_ (some 22) rfl rfl HE2.out fs2 cs2 #[.int .i64 x17_1] rfl rfl (by (try simp only [List.map_toArray, List.map_cons, List.map_nil]); first | done | rfl | (simp only [List.length_drop, List.length_take]; rfl)) ?_; (with_reducible refine (HF2.out x17_1 t132 _ (qW HB.out) A12.out).mono ?_); rintro e w14 ⟨rfl, hb⟩; refine ⟨_, rfl, ?_⟩; have n0_ := Aside0.mk (Kd.R_below (qR HO_132000.out) hb); have n1_ := Aside0.mk (blk_below (qB BK130.out) hb); have n2_ := Aside0.mk (blk_below (qB BK131.out) hb); have n3_ := Aside0.mk (below_step (qW HB.out) hb); clear HO_132000 BK130 BK131 HB; have HO_132000 := n0_; have BK130 := n1_; have BK131 := n2_; have HB := n3_; clear n0_ n1_ n2_ n3_; (try clear hb); (try clear hb2); (try clear hk); (try clear hi); have hnb15 := NB130_131.out; have hnc15 := NB131_130.out; have hcz16_0 : w14.cell? ⟨gb130, 0, none⟩ = some (.slice none 0 0) := (blk_cell BK130.out 0).trans rfl; have hcz16_1 : w14.cell? ⟨gb130, 1, none⟩ = some (.int .i64 x131001_1) := (blk_cell BK130.out 1).trans rfl; have hfz16_0 := blk_frozen BK130.out 0; have hfz16_1 := blk_frozen BK130.out 1))
      refine bodyPost_ret (results_ct rfl _ _ gb130 24 #[.slice none 0 0, .int .i64 0] (0, 0) _ rfl (by (with_reducible repeat (first | refine blk_drewN ?_ _ | refine blk_drew ?_ | refine blk_alloc ?_ _)); refine blk_put (cs := #[.slice none 0 0, .int .i64 x131001_1]) ?_ 1 _ rfl; (with_reducible repeat (first | refine blk_drewN ?_ _ | refine blk_drew ?_ | refine blk_alloc ?_ _)); refine blk_put (cs := #[.slice none 0 0, .int .i64 x131001_1]) ?_ 0 _ rfl; exact qB BK130.out) Try.underlying24 rfl (by kernel_rfl)) rfl ?_
      exact ⟨_, by first | rfl | (simp [errW_none, errW_some] <;> rfl) | (simp [*, errW_none, errW_some] <;> rfl), by first | exact Kd.R_nil _ _ _ _ _ | exact Kd.N_nil _ _ _ _ _ | exact Kd.V_nil _ _ _ _ _ | exact Kd.Q_nil _ _ _ _ _ | exact Kd.S_nil _ _ _ _ _, by repeat (first | (with_reducible first | exact HB.out | apply below_alloc | apply pw_below_drewN | apply below_drew1 | refine below_set ?_ GE130.out | refine below_set ?_ GE131.out) | exact HB.out)⟩
     ·rw [if_neg c13] at H
      have c13b0 : decide (1073741824 < t132) = false := decide_eq_false c13
      clear c13
      by_cases c17 : x132000_1.length < 17592186044416
      case neg =>
       rw [if_neg c17] at H
       exact absurd H (by simp)
      rw [if_pos c17] at H
      have LMc17 := Aside0.mk c17
      clear c17
      obtain ⟨y133, hy133⟩ : ∃ y_ : List Int, y_ = (x132000_1 ++ [t132]) := ⟨_, rfl⟩
      replace H : (curve_made.l0 F2 k1 a1 a0 (wrap64 (x17_1 + 1)) y133 a1) = some (r1, r2, r3) := by first | (rw [hy133]; with_reducible exact H) | (have H2_ := (Option.bind_some _ _).symm.trans H; rw [hy133]; with_reducible exact H2_) | (have H2_ := (Option.bind_some _ _).symm.trans H; with_reducible exact H2_) | with_reducible exact H | (rw [hy133]; exact H) | exact H
      have Ny133 := Aside0.mk hy133
      clear hy133
      have H' := Aside0.mk H
      clear H
      go_wp2_with (first | ((with_reducible refine gate_dst (N := 22) rfl ?_); refine goesF_ (some 22) rfl rfl HE2.out fs2 cs2 #[.int .i64 x17_1] rfl rfl (by (try simp only [List.map_toArray, List.map_cons, List.map_nil]); first | done | rfl | (simp only [List.length_drop, List.length_take]; rfl)) ?_; (with_reducible refine (HF2.out x17_1 t132 _ (qW HB.out) A12.out).mono ?_); rintro e w18 ⟨rfl, hb⟩; refine ⟨_, rfl, ?_⟩; have n0_ := Aside0.mk (Kd.R_below (qR HO_132000.out) hb); have n1_ := Aside0.mk (blk_below (qB BK130.out) hb); have n2_ := Aside0.mk (blk_below (qB BK131.out) hb); have n3_ := Aside0.mk (below_step (qW HB.out) hb); clear HO_132000 BK130 BK131 HB; have HO_132000 := n0_; have BK130 := n1_; have BK131 := n2_; have HB := n3_; clear n0_ n1_ n2_ n3_; (try clear hb); (try clear hb2); (try clear hk); (try clear hi); have hnb19 := NB131_130.out; have hnc19 := NB130_131.out; have hcz20_0 : w18.cell? ⟨gb131, 0, none⟩ = some (u132000) := (blk_cell BK131.out 0).trans rfl; have hcz20_1 : w18.cell? ⟨gb131, 1, none⟩ = some (.int .i64 a1) := (blk_cell BK131.out 1).trans rfl; have hfz20_0 := blk_frozen BK131.out 0; have hfz20_1 := blk_frozen BK131.out 1) | ((with_reducible refine gate_builtin (b := .append) (xs := #[.tmp 27, .tmp 29]) rfl ?_); at_builtin; refine Kd.R_append (Kd.int .i64) (w0 := w) w.heap.size rfl (.tmp 27) (.tmp 29) 22 3 (.int .i64 0) 8 rfl Try.underlying22 info3 rfl (by decide) (by omega) u132000 x132000_1 t132 [.int .i64 t132] (fun _ => True) (fun _ => False) rfl rfl ?aP (fun _ hk => hk.elim) ?aF ?aO ?aB ?aS ?aL ?_; (case aP => exact rfl); (case aB => exact (qW HB.out)); (case aF => exact (fun _ _ => trivial)); (case aO => exact (qR HO_132000.out)); (case aS => exact (below_size (qW HB.out))); (case aL => have := LMc17.out; omega); intro v134 w21 ho hb hg hat; rw [← Ny133.out] at ho; have n0_ := Aside0.mk (blk_grown (qB BK130.out) hg (Kd.R_ne HO_132000.out BK130.out (by decide))); have n1_ := Aside0.mk (blk_grown (qB BK131.out) hg (Kd.R_ne HO_132000.out BK131.out (by decide))); have n2_ := Aside0.mk (hb); have n3_ := Aside0.mk (ho); clear BK130 BK131 HB HO_132000; have BK130 := n0_; have BK131 := n1_; have HB := n2_; have HO135 := n3_; clear n0_ n1_ n2_ n3_ ho hb hg hat; obtain ⟨Ao22, co22, eo22⟩ := Kd.R_slice HO135.out; subst eo22; have hcz23_0 : w21.cell? ⟨gb131, 0, none⟩ = some (u132000) := (blk_cell BK131.out 0).trans rfl; have hcz23_1 : w21.cell? ⟨gb131, 1, none⟩ = some (.int .i64 a1) := (blk_cell BK131.out 1).trans rfl; have hfz23_0 := blk_frozen BK131.out 0; have hfz23_1 := blk_frozen BK131.out 1))
      go_roundg k1
      case measure => have := HK1.out; omega
      case rel => exact ⟨(wrap64 (x17_1 + 1)), (x131001_1), (y133), (.slice Ao22 y133.length co22), (by first | rfl | (simp; done) | (simp [*]; done)), H', ⟨by have := HK1.out; omega⟩, ⟨by exact qR (Kd.R_mono (Kd.R_far (p := ⟨gb131, 0, none⟩) (Kd.R_types HO135.out BK131.out (by decide)) (fun _ hk => hk.2) (.slice Ao22 y133.length co22)) (fun _ hk => trivial))⟩, ⟨by (with_reducible repeat (first | refine blk_drewN ?_ _ | refine blk_drew ?_ | refine blk_alloc ?_ _)); refine blk_far ?_ NB130_131.out _; exact qB BK130.out⟩, ⟨by (with_reducible repeat (first | refine blk_drewN ?_ _ | refine blk_drew ?_ | refine blk_alloc ?_ _)); refine blk_put (cs := #[u132000, .int .i64 a1]) ?_ 0 _ rfl; exact qB BK131.out⟩, ⟨by repeat (first | (with_reducible first | exact HB.out | apply below_alloc | apply pw_below_drewN | apply below_drew1 | refine below_set ?_ GE130.out | refine below_set ?_ GE131.out) | exact HB.out)⟩⟩
    ·rw [if_neg c11] at H
     have c11b0 : decide (x17_1 < a0) = false := decide_eq_false c11
     clear c11
     by_cases c24 : a1 > 1073741824
     ·rw [if_pos c24] at H
      have c24b0 : decide (1073741824 < a1) = true := decide_eq_true c24
      clear c24
      simp only [Option.some.injEq, Prod.mk.injEq] at H
      obtain ⟨rfl, rfl, rfl⟩ := H
      have hnb25 := NB130_131.out
      have hnc25 := NB131_130.out
      have hcz26_0 : wr.cell? ⟨gb130, 0, none⟩ = some (.slice none 0 0) := (blk_cell BK130.out 0).trans rfl
      have hcz26_1 : wr.cell? ⟨gb130, 1, none⟩ = some (.int .i64 x131001_1) := (blk_cell BK130.out 1).trans rfl
      have hfz26_0 := blk_frozen BK130.out 0
      have hfz26_1 := blk_frozen BK130.out 1
      go_wp2
      refine bodyPost_ret (results_ct rfl _ _ gb130 24 #[.slice none 0 0, .int .i64 0] (0, 0) _ rfl (by (with_reducible repeat (first | refine blk_drewN ?_ _ | refine blk_drew ?_ | refine blk_alloc ?_ _)); refine blk_put (cs := #[.slice none 0 0, .int .i64 x131001_1]) ?_ 1 _ rfl; (with_reducible repeat (first | refine blk_drewN ?_ _ | refine blk_drew ?_ | refine blk_alloc ?_ _)); refine blk_put (cs := #[.slice none 0 0, .int .i64 x131001_1]) ?_ 0 _ rfl; exact qB BK130.out) Try.underlying24 rfl (by kernel_rfl)) rfl ?_
      exact ⟨_, by first | rfl | (simp [errW_none, errW_some] <;> rfl) | (simp [*, errW_none, errW_some] <;> rfl), by first | exact Kd.R_nil _ _ _ _ _ | exact Kd.N_nil _ _ _ _ _ | exact Kd.V_nil _ _ _ _ _ | exact Kd.Q_nil _ _ _ _ _ | exact Kd.S_nil _ _ _ _ _, by repeat (first | (with_reducible first | exact HB.out | apply below_alloc | apply pw_below_drewN | apply below_drew1 | refine below_set ?_ GE130.out | refine below_set ?_ GE131.out) | exact HB.out)⟩
     ·rw [if_neg c24] at H
      have c24b0 : decide (1073741824 < a1) = false := decide_eq_false c24
      clear c24
      simp only [Option.some.injEq, Prod.mk.injEq] at H
      obtain ⟨rfl, rfl, rfl⟩ := H
      have hnb27 := NB131_130.out
      have hnc27 := NB130_131.out
      have hcz28_0 : wr.cell? ⟨gb131, 0, none⟩ = some (u132000) := (blk_cell BK131.out 0).trans rfl
      have hcz28_1 : wr.cell? ⟨gb131, 1, none⟩ = some (.int .i64 a1) := (blk_cell BK131.out 1).trans rfl
      have hfz28_0 := blk_frozen BK131.out 0
      have hfz28_1 := blk_frozen BK131.out 1
      obtain ⟨Ao29, co29, eo29⟩ := Kd.R_slice HO_132000.out
      subst eo29
      have hcz30_0 : wr.cell? ⟨gb130, 0, none⟩ = some (.slice none 0 0) := (blk_cell BK130.out 0).trans rfl
      have hcz30_1 : wr.cell? ⟨gb130, 1, none⟩ = some (.int .i64 x131001_1) := (blk_cell BK130.out 1).trans rfl
      have hfz30_0 := blk_frozen BK130.out 0
      have hfz30_1 := blk_frozen BK130.out 1
      go_wp2
      refine bodyPost_ret (results_ct rfl _ _ gb130 24 #[.slice Ao29 x132000_1.length co29, .int .i64 a1] (0, 0) _ rfl (by (with_reducible repeat (first | refine blk_drewN ?_ _ | refine blk_drew ?_ | refine blk_alloc ?_ _)); refine blk_put (cs := #[.slice Ao29 x132000_1.length co29, .int .i64 x131001_1]) ?_ 1 _ rfl; (with_reducible repeat (first | refine blk_drewN ?_ _ | refine blk_drew ?_ | refine blk_alloc ?_ _)); refine blk_put (cs := #[.slice none 0 0, .int .i64 x131001_1]) ?_ 0 _ rfl; exact qB BK130.out) Try.underlying24 rfl (by kernel_rfl)) rfl ?_
      exact ⟨_, by first | rfl | (simp [errW_none, errW_some] <;> rfl) | (simp [*, errW_none, errW_some] <;> rfl), by exact qR (Kd.R_mono (Kd.R_far (p := ⟨gb130, 1, none⟩) (Kd.R_far (p := ⟨gb130, 0, none⟩) (Kd.R_types HO_132000.out BK130.out (by decide)) (fun _ hk => hk.2) (.slice Ao29 x132000_1.length co29)) (fun _ hk => hk.2) (.int .i64 a1)) (fun _ hk => trivial)), by repeat (first | (with_reducible first | exact HB.out | apply below_alloc | apply pw_below_drewN | apply below_drew1 | refine below_set ?_ GE130.out | refine below_set ?_ GE131.out) | exact HB.out)⟩

end Go.Proofs.Ytanlonngekgibaa.Pr

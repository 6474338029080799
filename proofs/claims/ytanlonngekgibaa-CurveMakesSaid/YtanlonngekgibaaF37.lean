-- Written by pp.py, a program of this session, over the translation of the given program; a machine's text: Lean checks it.
import Derived.Test.YtanlonngekgibaaGShort
import Derived.Test.YtanlonngekgibaaF29
import Derived.Test.YtanlonngekgibaaF65
namespace Go.Proofs.Ytanlonngekgibaa.Pr
open Go.RowKit Go.Proofs.YtanlonngekgibaaW.PrintWords Go.Proofs.YtanlonngekgibaaW.PrintLast Go.Proofs.YtanlonngekgibaaW.PrintMore
attribute [local go_sem] max2_int min2_int max_two min_two max_three min_three max_four min_four   -- for this text's walks alone
set_option linter.unusedVariables false
set_option linter.unusedSimpArgs false

/-! ### standbyref55_windows: function 37 -/
mutual
def standbyref55_windows.l0 : Nat → List Int → Int → Bool → Int → List Int → Int → Option (List Int × Int × Int)
 | 0, _, _, _, _, _, _ => none
 | k + 1, x0, x1, x2, x10, x197000, x197001 => if x10 ≤ (x0.length : Int) then ((standbyref55_Window.f k x0 x1 (x0.length : Int) x10).bind fun t197 => (standbyref55_windows.l1 k x0 x1 x2 x10 t197 0 x197000 x197001)) else (some (x197000, x197001, 0))
def standbyref55_windows.l1 : Nat → List Int → Int → Bool → Int → Int → Int → List Int → Int → Option (List Int × Int × Int)
 | 0, _, _, _, _, _, _, _, _ => none
 | k + 1, x0, x1, x2, x10, x11, x12, x197000, x197001 => if x12 < (x0.length : Int) then ((standbyref55_Window.f k x0 x1 x12 x10).bind fun t201 => (if x2 = true then (if t201 > x11 then (standbyref55_windows.l1 k x0 x1 x2 x10 t201 (wrap64 (x12 + 1)) x197000 x197001) else (standbyref55_windows.l1 k x0 x1 x2 x10 x11 (wrap64 (x12 + 1)) x197000 x197001)) else (if t201 < x11 then (standbyref55_windows.l1 k x0 x1 x2 x10 t201 (wrap64 (x12 + 1)) x197000 x197001) else (standbyref55_windows.l1 k x0 x1 x2 x10 x11 (wrap64 (x12 + 1)) x197000 x197001)))) else (if x11 > 1073741824 then (some (([] : List Int), 0, 2)) else (if x197000.length < 17592186044416 then (standbyref55_windows.l0 k x0 x1 x2 (wrap64 (x10 + 1)) (x197000 ++ [x11]) x197001) else (none)))
end
def standbyref55_windows.f (k : Nat) (l0 : List Int) (a1 : Int) (a2 : Bool) : Option (List Int × Int × Int) := (standbyref55_sequence.f k l0 a1).bind fun t195 => (if t195 = 0 then (standbyref55_windows.l0 k l0 a1 a2 0 ([] : List Int) a1) else (some (([] : List Int), 0, t195)))
theorem standbyref55_windows.mono_l : ∀ k, (∀ y0 y1 y2 y3 y4 y5, LeO (standbyref55_windows.l0 k y0 y1 y2 y3 y4 y5) (standbyref55_windows.l0 (k + 1) y0 y1 y2 y3 y4 y5)) ∧ (∀ y0 y1 y2 y3 y4 y5 y6 y7, LeO (standbyref55_windows.l1 k y0 y1 y2 y3 y4 y5 y6 y7) (standbyref55_windows.l1 (k + 1) y0 y1 y2 y3 y4 y5 y6 y7))
 | 0 => ⟨fun _ _ _ _ _ _ r h => by simp [standbyref55_windows.l0] at h, fun _ _ _ _ _ _ _ _ r h => by simp [standbyref55_windows.l1] at h⟩
 | k + 1 => by
  obtain ⟨ih0, ih1⟩ := standbyref55_windows.mono_l k
  refine ⟨?_, ?_⟩
  ·intro y0 y1 y2 y3 y4 y5
   unfold standbyref55_windows.l0
   repeat' first
   | (with_reducible exact ih0 _ _ _ _ _ _)
   | (with_reducible exact ih1 _ _ _ _ _ _ _ _)
   | (with_reducible exact standbyref55_Window.mono _ _ _ _ _)
   | (with_reducible exact standbyref55_sequence.mono _ _ _)
   | (with_reducible exact LeO.refl _)
   | (with_reducible exact LeO.none _)
   | (with_reducible refine LeO.ite ?_ ?_)
   | (with_reducible refine LeO.bind ?_ (fun _ => ?_))
   | exact ih0 _ _ _ _ _ _
   | exact ih1 _ _ _ _ _ _ _ _
   | exact standbyref55_Window.mono _ _ _ _ _
   | exact standbyref55_sequence.mono _ _ _
   | exact LeO.none _
   | refine LeO.ite ?_ ?_
   | refine LeO.bind ?_ (fun _ => ?_)
  ·intro y0 y1 y2 y3 y4 y5 y6 y7
   unfold standbyref55_windows.l1
   repeat' first
   | (with_reducible exact ih0 _ _ _ _ _ _)
   | (with_reducible exact ih1 _ _ _ _ _ _ _ _)
   | (with_reducible exact standbyref55_Window.mono _ _ _ _ _)
   | (with_reducible exact standbyref55_sequence.mono _ _ _)
   | (with_reducible exact LeO.refl _)
   | (with_reducible exact LeO.none _)
   | (with_reducible refine LeO.ite ?_ ?_)
   | (with_reducible refine LeO.bind ?_ (fun _ => ?_))
   | exact ih0 _ _ _ _ _ _
   | exact ih1 _ _ _ _ _ _ _ _
   | exact standbyref55_Window.mono _ _ _ _ _
   | exact standbyref55_sequence.mono _ _ _
   | exact LeO.none _
   | refine LeO.ite ?_ ?_
   | refine LeO.bind ?_ (fun _ => ?_)
theorem standbyref55_windows.mono : ∀ a0 a1 a2 k, LeO (standbyref55_windows.f k a0 a1 a2) (standbyref55_windows.f (k + 1) a0 a1 a2) := by
 intro a0 a1 a2 k
 obtain ⟨ih0, ih1⟩ := standbyref55_windows.mono_l k
 unfold standbyref55_windows.f
 repeat' first
   | (with_reducible exact ih0 _ _ _ _ _ _)
   | (with_reducible exact ih1 _ _ _ _ _ _ _ _)
   | (with_reducible exact standbyref55_Window.mono _ _ _ _ _)
   | (with_reducible exact standbyref55_sequence.mono _ _ _)
   | (with_reducible exact LeO.refl _)
   | (with_reducible exact LeO.none _)
   | (with_reducible refine LeO.ite ?_ ?_)
   | (with_reducible refine LeO.bind ?_ (fun _ => ?_))
   | exact ih0 _ _ _ _ _ _
   | exact ih1 _ _ _ _ _ _ _ _
   | exact standbyref55_Window.mono _ _ _ _ _
   | exact standbyref55_sequence.mono _ _ _
   | exact LeO.none _
   | refine LeO.ite ?_ ?_
   | refine LeO.bind ?_ (fun _ => ?_)
set_option maxHeartbeats 8000000 in
set_option maxRecDepth 100000 in
theorem standbyref55_windows.calls (k : Nat) (A0 : Option Addr) (c0 : Nat) (l0 : List Int) (a1 : Int) (a2 : Bool) (r1 : List Int) (r2 : Int) (r3 : Int) (w : World) (hr0 : Kd.C (Kd.int .i64) w A0 l0.length l0) (hc0 : l0.length ≤ c0) (h : standbyref55_windows.f k l0 a1 a2 = some (r1, r2, r3)) :
  Calls Try.prog 37 #[.slice A0 l0.length c0, .int .i64 a1, .bool a2] w fun e w' => ∃ v0_ : Value, e = .returned (.tuple #[.agg #[v0_, .int .i64 r2], .int .i64 r3]) ∧ Kd.R (Kd.int .i64) 3 w' w.heap.size (fun _ => True) v0_ r1 ∧ Below w.heap.size w w' := by
 have hu24 := Try.underlying24
 have HR0 := Aside0.mk hr0
 have HC0 := Aside0.mk hc0
 clear hr0 hc0
 have HB := Aside0.mk (Below.refl w.heap.size w)
 have H : ((standbyref55_sequence.f k l0 a1).bind fun t195 => (if t195 = 0 then (standbyref55_windows.l0 k l0 a1 a2 0 ([] : List Int) a1) else (some (([] : List Int), 0, t195)))) = some (r1, r2, r3) := h
 clear h
 replace H := Option.bind_eq_some_iff.mp H
 obtain ⟨t195, A40, H⟩ := H
 replace H : (if t195 = 0 then (standbyref55_windows.l0 k l0 a1 a2 0 ([] : List Int) a1) else (some (([] : List Int), 0, t195))) = some (r1, r2, r3) := H
 have A4 := Aside0.mk A40
 clear A40
 by_cases c5 : t195 = 0
 case neg =>
  rw [if_neg c5] at H
  have c5b0 : (t195 == 0) = false := beq_eq_false_iff_ne.mpr c5
  have c5b1 : (t195 != 0) = true := bne_iff_ne.mpr c5
  simp only [Option.some.injEq, Prod.mk.injEq] at H
  obtain ⟨rfl, rfl, rfl⟩ := H
  go_enter Try.func37, Try.ntmps37
  go_wp2_with (first | ((with_reducible refine gate_dst (N := 6) rfl ?_); refine box_event ?hg (N := 6) ?hd (cs := #[.slice none 0 0, .int .i64 0]) (t := 24) ?hr ?_; (case hd => rfl); (case hg => rfl); (case hr => first | (go_simp; done) | (go_simp; rfl)); intro gb194 hg w30 hbox hb; have n0_ := Aside0.mk (below_step (qW HB.out) hb); have n1_ := Aside0.mk (hbox); have n2_ := Aside0.mk ((by rw [hg]; exact (below_size (qW HB.out)) : w.heap.size ≤ gb194)); have n3_ := Aside0.mk ((by rw [hg]; exact (below_size (qW HB.out)) : w.heap.size ≤ gb194)); clear HB; have HB := n0_; have BK194 := n1_; have GW194 := n2_; have GE194 := n3_; clear n0_ n1_ n2_ n3_ hb hbox hg) | ((with_reducible refine gate_callee (f := 65) rfl ?_); refine goesL_ (some 16) rfl rfl Try.func65 (by kernel_rfl) rfl #[.slice A0 l0.length c0, .int .i64 a1] rfl (by (try simp only [List.map_toArray, List.map_cons, List.map_nil]); first | done | rfl | (simp only [List.length_drop, List.length_take]; rfl)) ?_; (with_reducible refine (standbyref55_sequence.calls k _ _ l0 a1 t195 _ ?side1 ?side2 A4.out).mono ?_); (case side1 => exact qC HR0.out HB.out); (case side2 => exact HC0.out); rintro e w' ⟨rfl, ⟨nd, rfl⟩⟩; refine ⟨_, rfl, ?_⟩; (try (rw [drewN_self w30]; generalize hq_ : World.drewN w30 _ = w30; have n0_ : Aside0 (w30.heap[gb194]? = some (.cells #[.slice none 0 0, .int .i64 0] 24 (0, 0))) := ⟨by rw [← hq_]; exact (qB BK194.out)⟩; have n1_ : Aside0 (Below w.heap.size w w30) := ⟨by rw [← hq_]; exact (qW HB.out)⟩; clear BK194 HB hq_; have BK194 := n0_; have HB := n1_; clear n0_ n1_)); have hcz31_0 : w30.cell? ⟨gb194, 0, none⟩ = some (.slice none 0 0) := (blk_cell BK194.out 0).trans rfl; have hcz31_1 : w30.cell? ⟨gb194, 1, none⟩ = some (.int .i64 0) := (blk_cell BK194.out 1).trans rfl; have hfz31_0 := blk_frozen BK194.out 0; have hfz31_1 := blk_frozen BK194.out 1))
  refine bodyPost_ret (results_ct rfl _ _ gb194 24 #[.slice none 0 0, .int .i64 0] (0, 0) _ rfl (by (with_reducible repeat (first | refine blk_drewN ?_ _ | refine blk_drew ?_ | refine blk_alloc ?_ _)); refine blk_put (cs := #[.slice none 0 0, .int .i64 0]) ?_ 1 _ rfl; (with_reducible repeat (first | refine blk_drewN ?_ _ | refine blk_drew ?_ | refine blk_alloc ?_ _)); refine blk_put (cs := #[.slice none 0 0, .int .i64 0]) ?_ 0 _ rfl; exact qB BK194.out) Try.underlying24 rfl (by kernel_rfl)) rfl ?_
  exact ⟨_, by first | rfl | (simp [errW_none, errW_some] <;> rfl) | (simp [*, errW_none, errW_some] <;> rfl), by first | exact Kd.R_nil _ _ _ _ _ | exact Kd.N_nil _ _ _ _ _ | exact Kd.V_nil _ _ _ _ _ | exact Kd.Q_nil _ _ _ _ _ | exact Kd.S_nil _ _ _ _ _, by repeat (first | (with_reducible first | exact HB.out | apply below_alloc | apply pw_below_drewN | apply below_drew1 | refine below_set ?_ GE194.out) | exact HB.out)⟩

 rw [if_pos c5] at H
 have c5b0 : (t195 == 0) = true := beq_iff_eq.mpr c5
 have c5b1 : (t195 != 0) = false := bne_eq_false_iff_eq.mpr c5
 clear c5
 have H' := Aside0.mk H
 clear H
 go_enter Try.func37, Try.ntmps37
 go_wp2_with (first | ((with_reducible refine gate_dst (N := 6) rfl ?_); refine box_event ?hg (N := 6) ?hd (cs := #[.slice none 0 0, .int .i64 0]) (t := 24) ?hr ?_; (case hd => rfl); (case hg => rfl); (case hr => first | (go_simp; done) | (go_simp; rfl)); intro gb194 hg w6 hbox hb; have n0_ := Aside0.mk (below_step (qW HB.out) hb); have n1_ := Aside0.mk (hbox); have n2_ := Aside0.mk ((by rw [hg]; exact (below_size (qW HB.out)) : w.heap.size ≤ gb194)); have n3_ := Aside0.mk ((by rw [hg]; exact (below_size (qW HB.out)) : w.heap.size ≤ gb194)); clear HB; have HB := n0_; have BK194 := n1_; have GW194 := n2_; have GE194 := n3_; clear n0_ n1_ n2_ n3_ hb hbox hg) | ((with_reducible refine gate_callee (f := 65) rfl ?_); refine goesL_ (some 16) rfl rfl Try.func65 (by kernel_rfl) rfl #[.slice A0 l0.length c0, .int .i64 a1] rfl (by (try simp only [List.map_toArray, List.map_cons, List.map_nil]); first | done | rfl | (simp only [List.length_drop, List.length_take]; rfl)) ?_; (with_reducible refine (standbyref55_sequence.calls k _ _ l0 a1 t195 _ ?side1 ?side2 A4.out).mono ?_); (case side1 => exact qC HR0.out HB.out); (case side2 => exact HC0.out); rintro e w' ⟨rfl, ⟨nd, rfl⟩⟩; refine ⟨_, rfl, ?_⟩; (try (rw [drewN_self w6]; generalize hq_ : World.drewN w6 _ = w6; have n0_ : Aside0 (w6.heap[gb194]? = some (.cells #[.slice none 0 0, .int .i64 0] 24 (0, 0))) := ⟨by rw [← hq_]; exact (qB BK194.out)⟩; have n1_ : Aside0 (Below w.heap.size w w6) := ⟨by rw [← hq_]; exact (qW HB.out)⟩; clear BK194 HB hq_; have BK194 := n0_; have HB := n1_; clear n0_ n1_))) | ((with_reducible refine gate_dst (N := 9) rfl ?_); refine box_event ?hg (N := 9) ?hd (cs := #[.slice none 0 0, .int .i64 0]) (t := 24) ?hr ?_; (case hd => rfl); (case hg => rfl); (case hr => first | (go_simp; done) | (go_simp; rfl)); intro gb196 hg w7 hbox hb; have n0_ := Aside0.mk (blk_below (qB BK194.out) hb); have n1_ := Aside0.mk (below_step (qW HB.out) hb); have n2_ := Aside0.mk (hbox); have n3_ := Aside0.mk ((by rw [hg]; exact (below_size (qW HB.out)) : w.heap.size ≤ gb196)); have n4_ := Aside0.mk ((by rw [hg]; exact (below_size (qW HB.out)) : w.heap.size ≤ gb196)); have n5_ := Aside0.mk ((by rw [hg]; exact Nat.ne_of_lt (blk_lt (qB BK194.out)) : gb194 ≠ gb196)); have n6_ := Aside0.mk ((by rw [hg]; exact Nat.ne_of_gt (blk_lt (qB BK194.out)) : gb196 ≠ gb194)); clear BK194 HB; have BK194 := n0_; have HB := n1_; have BK196 := n2_; have GW196 := n3_; have GE196 := n4_; have NB194_196 := n5_; have NB196_194 := n6_; clear n0_ n1_ n2_ n3_ n4_ n5_ n6_ hb hbox hg; have hnb8 := NB196_194.out; have hnc8 := NB194_196.out; have hcz9_0 : w7.cell? ⟨gb196, 0, none⟩ = some (.slice none 0 0) := (blk_cell BK196.out 0).trans rfl; have hcz9_1 : w7.cell? ⟨gb196, 1, none⟩ = some (.int .i64 0) := (blk_cell BK196.out 1).trans rfl; have hfz9_0 := blk_frozen BK196.out 0; have hfz9_1 := blk_frozen BK196.out 1))
 go_loopg [10] k (fun kq v10 w' => ∃ (x10_1 : Int) (x195001_1 : Int) (x197000_1 : List Int) (u197000 : Value), v10 = .int .i64 x10_1 ∧ Aside0 (standbyref55_windows.l0 kq l0 a1 a2 x10_1 x197000_1 a1 = some (r1, r2, r3)) ∧ Aside0 (kq ≤ k) ∧ Aside0 (Kd.R (Kd.int .i64) 3 w' w.heap.size (fun _ => True) u197000 x197000_1) ∧ Aside0 (w'.heap[gb194]? = some (.cells #[(.slice none 0 0), .int .i64 x195001_1] 24 (0, 0))) ∧ Aside0 (w'.heap[gb196]? = some (.cells #[u197000, .int .i64 a1] 24 (0, 0))) ∧ Aside0 (Below w.heap.size w w'))
 case atStart => exact ⟨(0), (0), (([] : List Int)), (.slice none 0 0), (by first | rfl | (simp; done) | (simp [*]; done)), H', ⟨Nat.le_refl _⟩, ⟨by first | exact Kd.R_nil _ _ _ _ _ | exact Kd.N_nil _ _ _ _ _ | exact Kd.V_nil _ _ _ _ _ | exact Kd.Q_nil _ _ _ _ _ | exact Kd.S_nil _ _ _ _ _⟩, ⟨by (with_reducible repeat (first | refine blk_drewN ?_ _ | refine blk_drew ?_ | refine blk_alloc ?_ _)); refine blk_far ?_ NB194_196.out _; (with_reducible repeat (first | refine blk_drewN ?_ _ | refine blk_drew ?_ | refine blk_alloc ?_ _)); refine blk_far ?_ NB194_196.out _; exact qB BK194.out⟩, ⟨by (with_reducible repeat (first | refine blk_drewN ?_ _ | refine blk_drew ?_ | refine blk_alloc ?_ _)); refine blk_put (cs := #[.slice none 0 0, .int .i64 0]) ?_ 1 _ rfl; (with_reducible repeat (first | refine blk_drewN ?_ _ | refine blk_drew ?_ | refine blk_alloc ?_ _)); refine blk_put (cs := #[.slice none 0 0, .int .i64 0]) ?_ 0 _ rfl; exact qB BK196.out⟩, ⟨by repeat (first | (with_reducible first | exact HB.out | apply below_alloc | apply pw_below_drewN | apply below_drew1 | refine below_set ?_ GE194.out | refine below_set ?_ GE196.out) | exact HB.out)⟩⟩
 case round =>
  clear H'
  try clear p2
  try clear c3
  try clear c5
  try clear c5b0
  try clear c5b1
  try clear c6
  try clear c8
  try clear hcz9_0
  try clear hcz9_1
  try clear hfz9_0
  try clear hfz9_1
  obtain ⟨x10_1, x195001_1, x197000_1, u197000, rfl, HA, HK1, HO_197000, BK194, BK196, HB⟩ := hrel
  cases gk with
  | zero => exact absurd HA.out (by simp [standbyref55_windows.l0])
  | succ k1 =>
   have H := HA.out
   clear HA
   simp only [standbyref55_windows.l0] at H
   by_cases c10 : x10_1 ≤ (l0.length : Int)
   case neg =>
    rw [if_neg c10] at H
    have c10b0 : decide (x10_1 ≤ (l0.length : Int)) = false := decide_eq_false c10
    clear c10
    simp only [Option.some.injEq, Prod.mk.injEq] at H
    obtain ⟨rfl, rfl, rfl⟩ := H
    have hnb26 := NB196_194.out
    have hnc26 := NB194_196.out
    have hcz27_0 : wr.cell? ⟨gb196, 0, none⟩ = some (u197000) := (blk_cell BK196.out 0).trans rfl
    have hcz27_1 : wr.cell? ⟨gb196, 1, none⟩ = some (.int .i64 a1) := (blk_cell BK196.out 1).trans rfl
    have hfz27_0 := blk_frozen BK196.out 0
    have hfz27_1 := blk_frozen BK196.out 1
    obtain ⟨Ao28, co28, eo28⟩ := Kd.R_slice HO_197000.out
    subst eo28
    have hcz29_0 : wr.cell? ⟨gb194, 0, none⟩ = some (.slice none 0 0) := (blk_cell BK194.out 0).trans rfl
    have hcz29_1 : wr.cell? ⟨gb194, 1, none⟩ = some (.int .i64 x195001_1) := (blk_cell BK194.out 1).trans rfl
    have hfz29_0 := blk_frozen BK194.out 0
    have hfz29_1 := blk_frozen BK194.out 1
    go_wp2
    refine bodyPost_ret (results_ct rfl _ _ gb194 24 #[.slice Ao28 x197000_1.length co28, .int .i64 a1] (0, 0) _ rfl (by (with_reducible repeat (first | refine blk_drewN ?_ _ | refine blk_drew ?_ | refine blk_alloc ?_ _)); refine blk_put (cs := #[.slice Ao28 x197000_1.length co28, .int .i64 x195001_1]) ?_ 1 _ rfl; (with_reducible repeat (first | refine blk_drewN ?_ _ | refine blk_drew ?_ | refine blk_alloc ?_ _)); refine blk_put (cs := #[.slice none 0 0, .int .i64 x195001_1]) ?_ 0 _ rfl; exact qB BK194.out) Try.underlying24 rfl (by kernel_rfl)) rfl ?_
    exact ⟨_, by first | rfl | (simp [errW_none, errW_some] <;> rfl) | (simp [*, errW_none, errW_some] <;> rfl), by exact qR (Kd.R_mono (Kd.R_far (p := ⟨gb194, 1, none⟩) (Kd.R_far (p := ⟨gb194, 0, none⟩) (Kd.R_types HO_197000.out BK194.out (by decide)) (fun _ hk => hk.2) (.slice Ao28 x197000_1.length co28)) (fun _ hk => hk.2) (.int .i64 a1)) (fun _ hk => trivial)), by repeat (first | (with_reducible first | exact HB.out | apply below_alloc | apply pw_below_drewN | apply below_drew1 | refine below_set ?_ GE194.out | refine below_set ?_ GE196.out) | exact HB.out)⟩
   rw [if_pos c10] at H
   have c10b0 : decide (x10_1 ≤ (l0.length : Int)) = true := decide_eq_true c10
   clear c10
   replace H := Option.bind_eq_some_iff.mp H
   obtain ⟨t197, A110, H⟩ := H
   replace H : (standbyref55_windows.l1 k1 l0 a1 a2 x10_1 t197 0 x197000_1 a1) = some (r1, r2, r3) := H
   have A11 := Aside0.mk A110
   clear A110
   have H' := Aside0.mk H
   clear H
   go_wp2_with (first | ((with_reducible refine gate_callee (f := 29) rfl ?_); refine goesL_ (some 34) rfl rfl Try.func29 (by kernel_rfl) rfl #[.slice A0 l0.length c0, .int .i64 a1, .int .i64 (l0.length : Int), .int .i64 x10_1] rfl (by (try simp only [List.map_toArray, List.map_cons, List.map_nil]); first | done | rfl | (simp only [List.length_drop, List.length_take]; rfl)) ?_; (with_reducible refine (standbyref55_Window.calls k1 _ _ l0 a1 (l0.length : Int) x10_1 t197 _ ?side1 ?side2 A11.out).mono ?_); (case side1 => exact qC HR0.out HB.out); (case side2 => exact HC0.out); rintro e w' ⟨rfl, ⟨nd, rfl⟩⟩; refine ⟨_, rfl, ?_⟩))
   go_loopg [11, 12] k1 (fun kq v11 v12 w' => ∃ (x11_2 : Int) (x12_2 : Int), v11 = .int .i64 x11_2 ∧ v12 = .int .i64 x12_2 ∧ Aside0 (standbyref55_windows.l1 kq l0 a1 a2 x10_1 x11_2 x12_2 x197000_1 a1 = some (r1, r2, r3)) ∧ Aside0 (kq ≤ k1) ∧ Aside0 (Kd.R (Kd.int .i64) 3 w' w.heap.size (fun _ => True) u197000 x197000_1) ∧ Aside0 (w'.heap[gb194]? = some (.cells #[(.slice none 0 0), .int .i64 x195001_1] 24 (0, 0))) ∧ Aside0 (w'.heap[gb196]? = some (.cells #[u197000, .int .i64 a1] 24 (0, 0))) ∧ Aside0 (Below w.heap.size w w'))
   case atStart => exact ⟨(t197), (0), (by first | rfl | (simp; done) | (simp [*]; done)), (by first | rfl | (simp; done) | (simp [*]; done)), H', ⟨Nat.le_refl _⟩, ⟨by exact qR HO_197000.out⟩, ⟨by exact qB BK194.out⟩, ⟨by exact qB BK196.out⟩, ⟨by repeat (first | (with_reducible first | exact HB.out | apply below_alloc | apply pw_below_drewN | apply below_drew1 | refine below_set ?_ GE194.out | refine below_set ?_ GE196.out) | exact HB.out)⟩⟩
   case round =>
    clear H'
    try clear c1
    try clear c2
    try clear p2
    try clear c3
    try clear c5
    try clear c5b0
    try clear c5b1
    try clear c6
    try clear c8
    try clear c10
    try clear c10b0
    try clear hcz9_0
    try clear hcz9_1
    try clear hfz9_0
    try clear hfz9_1
    try clear p2
    obtain ⟨x11_2, x12_2, rfl, rfl, HA, HK2, HO_197000, BK194, BK196, HB⟩ := hrel
    cases gk with
    | zero => exact absurd HA.out (by simp [standbyref55_windows.l1])
    | succ k2 =>
     have H := HA.out
     clear HA
     simp only [standbyref55_windows.l1] at H
     by_cases c12 : x12_2 < (l0.length : Int)
     case neg =>
      rw [if_neg c12] at H
      have c12b0 : decide (x12_2 < (l0.length : Int)) = false := decide_eq_false c12
      clear c12
      by_cases c17 : x11_2 > 1073741824
      ·rw [if_pos c17] at H
       have c17b0 : decide (1073741824 < x11_2) = true := decide_eq_true c17
       clear c17
       simp only [Option.some.injEq, Prod.mk.injEq] at H
       obtain ⟨rfl, rfl, rfl⟩ := H
       have hnb18 := NB194_196.out
       have hnc18 := NB196_194.out
       have hcz19_0 : wr.cell? ⟨gb194, 0, none⟩ = some (.slice none 0 0) := (blk_cell BK194.out 0).trans rfl
       have hcz19_1 : wr.cell? ⟨gb194, 1, none⟩ = some (.int .i64 x195001_1) := (blk_cell BK194.out 1).trans rfl
       have hfz19_0 := blk_frozen BK194.out 0
       have hfz19_1 := blk_frozen BK194.out 1
       go_wp2
       refine bodyPost_ret (results_ct rfl _ _ gb194 24 #[.slice none 0 0, .int .i64 0] (0, 0) _ rfl (by (with_reducible repeat (first | refine blk_drewN ?_ _ | refine blk_drew ?_ | refine blk_alloc ?_ _)); refine blk_put (cs := #[.slice none 0 0, .int .i64 x195001_1]) ?_ 1 _ rfl; (with_reducible repeat (first | refine blk_drewN ?_ _ | refine blk_drew ?_ | refine blk_alloc ?_ _)); refine blk_put (cs := #[.slice none 0 0, .int .i64 x195001_1]) ?_ 0 _ rfl; exact qB BK194.out) Try.underlying24 rfl (by kernel_rfl)) rfl ?_
       exact ⟨_, by first | rfl | (simp [errW_none, errW_some] <;> rfl) | (simp [*, errW_none, errW_some] <;> rfl), by first | exact Kd.R_nil _ _ _ _ _ | exact Kd.N_nil _ _ _ _ _ | exact Kd.V_nil _ _ _ _ _ | exact Kd.Q_nil _ _ _ _ _ | exact Kd.S_nil _ _ _ _ _, by repeat (first | (with_reducible first | exact HB.out | apply below_alloc | apply pw_below_drewN | apply below_drew1 | refine below_set ?_ GE194.out | refine below_set ?_ GE196.out) | exact HB.out)⟩
      ·rw [if_neg c17] at H
       have c17b0 : decide (1073741824 < x11_2) = false := decide_eq_false c17
       clear c17
       by_cases c20 : x197000_1.length < 17592186044416
       case neg =>
        rw [if_neg c20] at H
        exact absurd H (by simp)
       rw [if_pos c20] at H
       have LMc20 := Aside0.mk c20
       clear c20
       obtain ⟨y198, hy198⟩ : ∃ y_ : List Int, y_ = (x197000_1 ++ [x11_2]) := ⟨_, rfl⟩
       replace H : (standbyref55_windows.l0 k2 l0 a1 a2 (wrap64 (x10_1 + 1)) y198 a1) = some (r1, r2, r3) := by first | (rw [hy198]; with_reducible exact H) | (have H2_ := (Option.bind_some _ _).symm.trans H; rw [hy198]; with_reducible exact H2_) | (have H2_ := (Option.bind_some _ _).symm.trans H; with_reducible exact H2_) | with_reducible exact H | (rw [hy198]; exact H) | exact H
       have Ny198 := Aside0.mk hy198
       clear hy198
       have H' := Aside0.mk H
       clear H
       have hnb21 := NB196_194.out
       have hnc21 := NB194_196.out
       have hcz22_0 : wr.cell? ⟨gb196, 0, none⟩ = some (u197000) := (blk_cell BK196.out 0).trans rfl
       have hcz22_1 : wr.cell? ⟨gb196, 1, none⟩ = some (.int .i64 a1) := (blk_cell BK196.out 1).trans rfl
       have hfz22_0 := blk_frozen BK196.out 0
       have hfz22_1 := blk_frozen BK196.out 1
       go_wp2_with (first | ((with_reducible refine gate_builtin (b := .append) (xs := #[.tmp 66, .tmp 68]) rfl ?_); at_builtin; refine Kd.R_append (Kd.int .i64) (w0 := w) w.heap.size rfl (.tmp 66) (.tmp 68) 22 3 (.int .i64 0) 8 rfl Try.underlying22 info3 rfl (by decide) (by omega) u197000 x197000_1 x11_2 [.int .i64 x11_2] (fun _ => True) (fun _ => False) rfl rfl ?aP (fun _ hk => hk.elim) ?aF ?aO ?aB ?aS ?aL ?_; (case aP => exact rfl); (case aB => exact (qW HB.out)); (case aF => exact (fun _ _ => trivial)); (case aO => exact (qR HO_197000.out)); (case aS => exact (below_size (qW HB.out))); (case aL => have := LMc20.out; omega); intro v199 w23 ho hb hg hat; rw [← Ny198.out] at ho; have n0_ := Aside0.mk (blk_grown (qB BK194.out) hg (Kd.R_ne HO_197000.out BK194.out (by decide))); have n1_ := Aside0.mk (blk_grown (qB BK196.out) hg (Kd.R_ne HO_197000.out BK196.out (by decide))); have n2_ := Aside0.mk (hb); have n3_ := Aside0.mk (ho); clear BK194 BK196 HB HO_197000; have BK194 := n0_; have BK196 := n1_; have HB := n2_; have HO200 := n3_; clear n0_ n1_ n2_ n3_ ho hb hg hat; obtain ⟨Ao24, co24, eo24⟩ := Kd.R_slice HO200.out; subst eo24; have hcz25_0 : w23.cell? ⟨gb196, 0, none⟩ = some (u197000) := (blk_cell BK196.out 0).trans rfl; have hcz25_1 : w23.cell? ⟨gb196, 1, none⟩ = some (.int .i64 a1) := (blk_cell BK196.out 1).trans rfl; have hfz25_0 := blk_frozen BK196.out 0; have hfz25_1 := blk_frozen BK196.out 1))
       go_roundg k2
       case measure => have := HK1.out; have := HK2.out; omega
       case rel => exact ⟨(wrap64 (x10_1 + 1)), (x195001_1), (y198), (.slice Ao24 y198.length co24), (by first | rfl | (simp; done) | (simp [*]; done)), H', ⟨by have := HK1.out; have := HK2.out; omega⟩, ⟨by exact qR (Kd.R_mono (Kd.R_far (p := ⟨gb196, 0, none⟩) (Kd.R_types HO200.out BK196.out (by decide)) (fun _ hk => hk.2) (.slice Ao24 y198.length co24)) (fun _ hk => trivial))⟩, ⟨by (with_reducible repeat (first | refine blk_drewN ?_ _ | refine blk_drew ?_ | refine blk_alloc ?_ _)); refine blk_far ?_ NB194_196.out _; exact qB BK194.out⟩, ⟨by (with_reducible repeat (first | refine blk_drewN ?_ _ | refine blk_drew ?_ | refine blk_alloc ?_ _)); refine blk_put (cs := #[u197000, .int .i64 a1]) ?_ 0 _ rfl; exact qB BK196.out⟩, ⟨by repeat (first | (with_reducible first | exact HB.out | apply below_alloc | apply pw_below_drewN | apply below_drew1 | refine below_set ?_ GE194.out | refine below_set ?_ GE196.out) | exact HB.out)⟩⟩
     rw [if_pos c12] at H
     have c12b0 : decide (x12_2 < (l0.length : Int)) = true := decide_eq_true c12
     clear c12
     replace H := Option.bind_eq_some_iff.mp H
     obtain ⟨t201, A130, H⟩ := H
     replace H : (if a2 = true then (if t201 > x11_2 then (standbyref55_windows.l1 k2 l0 a1 a2 x10_1 t201 (wrap64 (x12_2 + 1)) x197000_1 a1) else (standbyref55_windows.l1 k2 l0 a1 a2 x10_1 x11_2 (wrap64 (x12_2 + 1)) x197000_1 a1)) else (if t201 < x11_2 then (standbyref55_windows.l1 k2 l0 a1 a2 x10_1 t201 (wrap64 (x12_2 + 1)) x197000_1 a1) else (standbyref55_windows.l1 k2 l0 a1 a2 x10_1 x11_2 (wrap64 (x12_2 + 1)) x197000_1 a1))) = some (r1, r2, r3) := H
     have A13 := Aside0.mk A130
     clear A130
     by_cases c14 : a2 = true
     ·subst c14
      have H1 : (if t201 > x11_2 then (standbyref55_windows.l1 k2 l0 a1 true x10_1 t201 (wrap64 (x12_2 + 1)) x197000_1 a1) else (standbyref55_windows.l1 k2 l0 a1 true x10_1 x11_2 (wrap64 (x12_2 + 1)) x197000_1 a1)) = some (r1, r2, r3) := by rw [if_pos rfl] at H; exact H
      clear H
      have H := H1
      clear H1
      by_cases c15 : t201 > x11_2
      ·rw [if_pos c15] at H
       have c15b0 : decide (x11_2 < t201) = true := decide_eq_true c15
       clear c15
       have H' := Aside0.mk H
       clear H
       go_wp2_with (first | ((with_reducible refine gate_callee (f := 29) rfl ?_); refine goesL_ (some 45) rfl rfl Try.func29 (by kernel_rfl) rfl #[.slice A0 l0.length c0, .int .i64 a1, .int .i64 x12_2, .int .i64 x10_1] rfl (by (try simp only [List.map_toArray, List.map_cons, List.map_nil]); first | done | rfl | (simp only [List.length_drop, List.length_take]; rfl)) ?_; (with_reducible refine (standbyref55_Window.calls k2 _ _ l0 a1 x12_2 x10_1 t201 _ ?side1 ?side2 A13.out).mono ?_); (case side1 => exact qC HR0.out HB.out); (case side2 => exact HC0.out); rintro e w' ⟨rfl, ⟨nd, rfl⟩⟩; refine ⟨_, rfl, ?_⟩))
       go_roundg k2
       case measure => have := HK1.out; have := HK2.out; omega
       case rel => exact ⟨(t201), (wrap64 (x12_2 + 1)), (by first | rfl | (simp; done) | (simp [*]; done)), (by first | rfl | (simp; done) | (simp [*]; done)), H', ⟨by have := HK1.out; have := HK2.out; omega⟩, ⟨by exact qR HO_197000.out⟩, ⟨by exact qB BK194.out⟩, ⟨by exact qB BK196.out⟩, ⟨by repeat (first | (with_reducible first | exact HB.out | apply below_alloc | apply pw_below_drewN | apply below_drew1 | refine below_set ?_ GE194.out | refine below_set ?_ GE196.out) | exact HB.out)⟩⟩
      ·rw [if_neg c15] at H
       have c15b0 : decide (x11_2 < t201) = false := decide_eq_false c15
       clear c15
       have H' := Aside0.mk H
       clear H
       go_wp2_with (first | ((with_reducible refine gate_callee (f := 29) rfl ?_); refine goesL_ (some 45) rfl rfl Try.func29 (by kernel_rfl) rfl #[.slice A0 l0.length c0, .int .i64 a1, .int .i64 x12_2, .int .i64 x10_1] rfl (by (try simp only [List.map_toArray, List.map_cons, List.map_nil]); first | done | rfl | (simp only [List.length_drop, List.length_take]; rfl)) ?_; (with_reducible refine (standbyref55_Window.calls k2 _ _ l0 a1 x12_2 x10_1 t201 _ ?side1 ?side2 A13.out).mono ?_); (case side1 => exact qC HR0.out HB.out); (case side2 => exact HC0.out); rintro e w' ⟨rfl, ⟨nd, rfl⟩⟩; refine ⟨_, rfl, ?_⟩))
       go_roundg k2
       case measure => have := HK1.out; have := HK2.out; omega
       case rel => exact ⟨(x11_2), (wrap64 (x12_2 + 1)), (by first | rfl | (simp; done) | (simp [*]; done)), (by first | rfl | (simp; done) | (simp [*]; done)), H', ⟨by have := HK1.out; have := HK2.out; omega⟩, ⟨by exact qR HO_197000.out⟩, ⟨by exact qB BK194.out⟩, ⟨by exact qB BK196.out⟩, ⟨by repeat (first | (with_reducible first | exact HB.out | apply below_alloc | apply pw_below_drewN | apply below_drew1 | refine below_set ?_ GE194.out | refine below_set ?_ GE196.out) | exact HB.out)⟩⟩
     ·replace c14 := Bool.eq_false_iff.mpr c14
      subst c14
      have H1 : (if t201 < x11_2 then (standbyref55_windows.l1 k2 l0 a1 false x10_1 t201 (wrap64 (x12_2 + 1)) x197000_1 a1) else (standbyref55_windows.l1 k2 l0 a1 false x10_1 x11_2 (wrap64 (x12_2 + 1)) x197000_1 a1)) = some (r1, r2, r3) := by rw [if_neg (show ¬ (false = true) by decide)] at H; exact H
      clear H
      have H := H1
      clear H1
      by_cases c16 : t201 < x11_2
      ·rw [if_pos c16] at H
       have c16b0 : decide (t201 < x11_2) = true := decide_eq_true c16
       clear c16
       have H' := Aside0.mk H
       clear H
       go_wp2_with (first | ((with_reducible refine gate_callee (f := 29) rfl ?_); refine goesL_ (some 45) rfl rfl Try.func29 (by kernel_rfl) rfl #[.slice A0 l0.length c0, .int .i64 a1, .int .i64 x12_2, .int .i64 x10_1] rfl (by (try simp only [List.map_toArray, List.map_cons, List.map_nil]); first | done | rfl | (simp only [List.length_drop, List.length_take]; rfl)) ?_; (with_reducible refine (standbyref55_Window.calls k2 _ _ l0 a1 x12_2 x10_1 t201 _ ?side1 ?side2 A13.out).mono ?_); (case side1 => exact qC HR0.out HB.out); (case side2 => exact HC0.out); rintro e w' ⟨rfl, ⟨nd, rfl⟩⟩; refine ⟨_, rfl, ?_⟩))
       go_roundg k2
       case measure => have := HK1.out; have := HK2.out; omega
       case rel => exact ⟨(t201), (wrap64 (x12_2 + 1)), (by first | rfl | (simp; done) | (simp [*]; done)), (by first | rfl | (simp; done) | (simp [*]; done)), H', ⟨by have := HK1.out; have := HK2.out; omega⟩, ⟨by exact qR HO_197000.out⟩, ⟨by exact qB BK194.out⟩, ⟨by exact qB BK196.out⟩, ⟨by repeat (first | (with_reducible first | exact HB.out | apply below_alloc | apply pw_below_drewN | apply below_drew1 | refine below_set ?_ GE194.out | refine below_set ?_ GE196.out) | exact HB.out)⟩⟩
      ·rw [if_neg c16] at H
       have c16b0 : decide (t201 < x11_2) = false := decide_eq_false c16
       clear c16
       have H' := Aside0.mk H
       clear H
       go_wp2_with (first | ((with_reducible refine gate_callee (f := 29) rfl ?_); refine goesL_ (some 45) rfl rfl Try.func29 (by kernel_rfl) rfl #[.slice A0 l0.length c0, .int .i64 a1, .int .i64 x12_2, .int .i64 x10_1] rfl (by (try simp only [List.map_toArray, List.map_cons, List.map_nil]); first | done | rfl | (simp only [List.length_drop, List.length_take]; rfl)) ?_; (with_reducible refine (standbyref55_Window.calls k2 _ _ l0 a1 x12_2 x10_1 t201 _ ?side1 ?side2 A13.out).mono ?_); (case side1 => exact qC HR0.out HB.out); (case side2 => exact HC0.out); rintro e w' ⟨rfl, ⟨nd, rfl⟩⟩; refine ⟨_, rfl, ?_⟩))
       go_roundg k2
       case measure => have := HK1.out; have := HK2.out; omega
       case rel => exact ⟨(x11_2), (wrap64 (x12_2 + 1)), (by first | rfl | (simp; done) | (simp [*]; done)), (by first | rfl | (simp; done) | (simp [*]; done)), H', ⟨by have := HK1.out; have := HK2.out; omega⟩, ⟨by exact qR HO_197000.out⟩, ⟨by exact qB BK194.out⟩, ⟨by exact qB BK196.out⟩, ⟨by repeat (first | (with_reducible first | exact HB.out | apply below_alloc | apply pw_below_drewN | apply below_drew1 | refine below_set ?_ GE194.out | refine below_set ?_ GE196.out) | exact HB.out)⟩⟩
end Go.Proofs.Ytanlonngekgibaa.Pr

-- Written by pp.py, a program of this session, over the translation of the given program; a machine's text: Lean checks it.
import Derived.Test.YtanlonngekgibaaGShort
import Derived.Test.YtanlonngekgibaaF45
import Derived.Test.YtanlonngekgibaaF51
import Derived.Test.YtanlonngekgibaaF58
namespace Go.Proofs.Ytanlonngekgibaa.Pr
open Go.RowKit Go.Proofs.YtanlonngekgibaaW.PrintWords Go.Proofs.YtanlonngekgibaaW.PrintLast Go.Proofs.YtanlonngekgibaaW.PrintMore
attribute [local go_sem] max2_int min2_int max_two min_two max_three min_three max_four min_four   -- for this text's walks alone
set_option linter.unusedVariables false
set_option linter.unusedSimpArgs false

/-! ### standbyref55_Delay: function 25 -/
mutual
def standbyref55_Delay.j0 : Nat → Bool → List Int → Int → List Int → Int → Option (Int × Int)
 | 0, _, _, _, _, _ => none
 | k + 1, x43, x287000, x287001, x288000, x288001 => if x43 = true then (some (0, 21)) else (standbyref55_Delay.l0 k 0 0 x287000 x287001 x288000 x288001)
def standbyref55_Delay.l0 : Nat → Int → Int → List Int → Int → List Int → Int → Option (Int × Int)
 | 0, _, _, _, _, _, _ => none
 | k + 1, x7, x8, x287000, x287001, x288000, x288001 => if x8 < (mx (x287000.length : Int) (x288000.length : Int)) then ((standbyref55_value.f x287000 x287001 x8).bind fun t291 => ((standbyref55_reach.f k x288000 x288001 t291).bind fun t292 => (standbyref55_Delay.l0 k (mx x7 (wrap64 (t292 - x8))) (wrap64 (x8 + 1)) x287000 x287001 x288000 x288001))) else (some (x7, 0))
end
def standbyref55_Delay.f (k : Nat) (l0_0 : List Int) (a0_1 : Int) (l1_0 : List Int) (a1_1 : Int) : Option (Int × Int) := (standbyref55_pair.f k l0_0 a0_1 l1_0 a1_1).bind fun t288 => (if t288 = 0 then (if a0_1 > a1_1 then (standbyref55_Delay.j0 k true l0_0 a0_1 l1_0 a1_1) else (if a1_1 = 0 then (if 0 ≤ (wrap64 ((l0_0.length : Int) - 1)) then (if (wrap64 ((l0_0.length : Int) - 1)) < (l0_0.length : Int) then (if 0 ≤ (wrap64 ((l1_0.length : Int) - 1)) then (if (wrap64 ((l1_0.length : Int) - 1)) < (l1_0.length : Int) then (standbyref55_Delay.j0 k (decide ((rd l0_0 (wrap64 ((l0_0.length : Int) - 1))) > (rd l1_0 (wrap64 ((l1_0.length : Int) - 1))))) l0_0 a0_1 l1_0 a1_1) else (none)) else (none)) else (none)) else (none)) else (standbyref55_Delay.j0 k false l0_0 a0_1 l1_0 a1_1))) else (some (0, t288)))
theorem standbyref55_Delay.mono_l : ∀ k, (∀ y0 y1 y2 y3 y4, LeO (standbyref55_Delay.j0 k y0 y1 y2 y3 y4) (standbyref55_Delay.j0 (k + 1) y0 y1 y2 y3 y4)) ∧ (∀ y0 y1 y2 y3 y4 y5, LeO (standbyref55_Delay.l0 k y0 y1 y2 y3 y4 y5) (standbyref55_Delay.l0 (k + 1) y0 y1 y2 y3 y4 y5))
 | 0 => ⟨fun _ _ _ _ _ r h => by simp [standbyref55_Delay.j0] at h, fun _ _ _ _ _ _ r h => by simp [standbyref55_Delay.l0] at h⟩
 | k + 1 => by
  obtain ⟨ih0, ih1⟩ := standbyref55_Delay.mono_l k
  refine ⟨?_, ?_⟩
  ·intro y0 y1 y2 y3 y4
   unfold standbyref55_Delay.j0
   repeat' first
   | (with_reducible exact ih0 _ _ _ _ _)
   | (with_reducible exact ih1 _ _ _ _ _ _)
   | (with_reducible exact standbyref55_pair.mono _ _ _ _ _)
   | (with_reducible exact standbyref55_reach.mono _ _ _ _)
   | (with_reducible exact LeO.refl _)
   | (with_reducible exact LeO.none _)
   | (with_reducible refine LeO.ite ?_ ?_)
   | (with_reducible refine LeO.bind ?_ (fun _ => ?_))
   | exact ih0 _ _ _ _ _
   | exact ih1 _ _ _ _ _ _
   | exact standbyref55_pair.mono _ _ _ _ _
   | exact standbyref55_reach.mono _ _ _ _
   | exact LeO.none _
   | refine LeO.ite ?_ ?_
   | refine LeO.bind ?_ (fun _ => ?_)
  ·intro y0 y1 y2 y3 y4 y5
   unfold standbyref55_Delay.l0
   repeat' first
   | (with_reducible exact ih0 _ _ _ _ _)
   | (with_reducible exact ih1 _ _ _ _ _ _)
   | (with_reducible exact standbyref55_pair.mono _ _ _ _ _)
   | (with_reducible exact standbyref55_reach.mono _ _ _ _)
   | (with_reducible exact LeO.refl _)
   | (with_reducible exact LeO.none _)
   | (with_reducible refine LeO.ite ?_ ?_)
   | (with_reducible refine LeO.bind ?_ (fun _ => ?_))
   | exact ih0 _ _ _ _ _
   | exact ih1 _ _ _ _ _ _
   | exact standbyref55_pair.mono _ _ _ _ _
   | exact standbyref55_reach.mono _ _ _ _
   | exact LeO.none _
   | refine LeO.ite ?_ ?_
   | refine LeO.bind ?_ (fun _ => ?_)
theorem standbyref55_Delay.mono : ∀ a0 a1 a2 a3 k, LeO (standbyref55_Delay.f k a0 a1 a2 a3) (standbyref55_Delay.f (k + 1) a0 a1 a2 a3) := by
 intro a0 a1 a2 a3 k
 obtain ⟨ih0, ih1⟩ := standbyref55_Delay.mono_l k
 unfold standbyref55_Delay.f
 repeat' first
   | (with_reducible exact ih0 _ _ _ _ _)
   | (with_reducible exact ih1 _ _ _ _ _ _)
   | (with_reducible exact standbyref55_pair.mono _ _ _ _ _)
   | (with_reducible exact standbyref55_reach.mono _ _ _ _)
   | (with_reducible exact LeO.refl _)
   | (with_reducible exact LeO.none _)
   | (with_reducible refine LeO.ite ?_ ?_)
   | (with_reducible refine LeO.bind ?_ (fun _ => ?_))
   | exact ih0 _ _ _ _ _
   | exact ih1 _ _ _ _ _ _
   | exact standbyref55_pair.mono _ _ _ _ _
   | exact standbyref55_reach.mono _ _ _ _
   | exact LeO.none _
   | refine LeO.ite ?_ ?_
   | refine LeO.bind ?_ (fun _ => ?_)
def standbyref55_Delay.T4 : Bool × List (List Nat × List Nat) := (true, [([], []), ([0], [0]), ([], []), ([2], [2]), ([1, 3], [1, 3]), ([4], [4]), ([5], [5]), ([6, 5], [5, 6]), ([7, 5], [5, 7]), ([8, 5, 5], [5, 8]), ([9], [9]), ([10, 9], [9, 10]), ([9], [9]), ([12, 9], [9, 12]), ([13, 9], [9, 13]), ([14, 9], [9, 14]), ([11, 15, 9], [9, 11, 15]), ([16, 9], [9, 16]), ([9], [9]), ([18, 9], [9, 18]), ([9], [9]), ([20, 9], [9, 20]), ([21, 9], [9, 21]), ([22, 9], [9, 22]), ([19, 23, 9], [9, 19, 23]), ([24, 9], [9, 24]), ([17, 25, 9], [9, 17, 25]), ([9, 26, 5], [5, 9, 26]), ([5, 27], [5, 27])])
def standbyref55_Delay.B4 : List Nat := [0, 1, 0, 4, 15, 31, 63, 127, 255, 511, 1023, 2047, 1023, 5119, 13311, 29695, 65535, 131071, 1023, 263167, 1023, 1049599, 3146751, 7341055, 16516095, 33293311, 67108863, 134217727, 268435455]
theorem standbyref55_Delay.tab4 : rtab .any (opsOf Try.f25 4) = standbyref55_Delay.T4 := by kernel_rfl
theorem standbyref55_Delay.bits4 : waitsOk standbyref55_Delay.T4.2 standbyref55_Delay.B4 = true := by kernel_rfl
def standbyref55_Delay.T10 : Bool × List (List Nat × List Nat) := (true, [([], []), ([], []), ([], []), ([], []), ([2, 3], [2, 3]), ([1, 4, 4], [1, 4]), ([], []), ([5, 6], [5, 6]), ([0, 7], [0, 7]), ([8, 5, 0, 1, 2, 3, 4, 5, 6, 7, 8], [0, 8])])
def standbyref55_Delay.B10 : List Nat := [0, 0, 0, 0, 12, 30, 0, 126, 255, 511]
theorem standbyref55_Delay.tab10 : rtab .any (opsOf Try.f25 10) = standbyref55_Delay.T10 := by kernel_rfl
theorem standbyref55_Delay.bits10 : waitsOk standbyref55_Delay.T10.2 standbyref55_Delay.B10 = true := by kernel_rfl
set_option maxHeartbeats 8000000 in
set_option maxRecDepth 100000 in
theorem standbyref55_Delay.calls (k : Nat) (A0_0 : Option Addr) (c0_0 : Nat) (l0_0 : List Int) (a0_1 : Int) (A1_0 : Option Addr) (c1_0 : Nat) (l1_0 : List Int) (a1_1 : Int) (r1 : Int) (r2 : Int) (w : World) (hr0_0 : Kd.C (Kd.int .i64) w A0_0 l0_0.length l0_0) (hc0_0 : l0_0.length ≤ c0_0) (hr1_0 : Kd.C (Kd.int .i64) w A1_0 l1_0.length l1_0) (hc1_0 : l1_0.length ≤ c1_0) (h : standbyref55_Delay.f k l0_0 a0_1 l1_0 a1_1 = some (r1, r2)) :
  Calls Try.prog 25 #[.agg #[.slice A0_0 l0_0.length c0_0, .int .i64 a0_1], .agg #[.slice A1_0 l1_0.length c1_0, .int .i64 a1_1]] w fun e w' => e = .returned (.tuple #[.int .i64 r1, .int .i64 r2]) ∧ Below w.heap.size w w' := by
 have hu24 := Try.underlying24
 have HR0_0 := Aside0.mk hr0_0
 have HC0_0 := Aside0.mk hc0_0
 clear hr0_0 hc0_0
 have HR1_0 := Aside0.mk hr1_0
 have HC1_0 := Aside0.mk hc1_0
 clear hr1_0 hc1_0
 have HB := Aside0.mk (Below.refl w.heap.size w)
 have H : ((standbyref55_pair.f k l0_0 a0_1 l1_0 a1_1).bind fun t288 => (if t288 = 0 then (if a0_1 > a1_1 then (standbyref55_Delay.j0 k true l0_0 a0_1 l1_0 a1_1) else (if a1_1 = 0 then (if 0 ≤ (wrap64 ((l0_0.length : Int) - 1)) then (if (wrap64 ((l0_0.length : Int) - 1)) < (l0_0.length : Int) then (if 0 ≤ (wrap64 ((l1_0.length : Int) - 1)) then (if (wrap64 ((l1_0.length : Int) - 1)) < (l1_0.length : Int) then (standbyref55_Delay.j0 k (decide ((rd l0_0 (wrap64 ((l0_0.length : Int) - 1))) > (rd l1_0 (wrap64 ((l1_0.length : Int) - 1))))) l0_0 a0_1 l1_0 a1_1) else (none)) else (none)) else (none)) else (none)) else (standbyref55_Delay.j0 k false l0_0 a0_1 l1_0 a1_1))) else (some (0, t288)))) = some (r1, r2) := h
 clear h
 replace H := Option.bind_eq_some_iff.mp H
 obtain ⟨t288, A30, H⟩ := H
 replace H : (if t288 = 0 then (if a0_1 > a1_1 then (standbyref55_Delay.j0 k true l0_0 a0_1 l1_0 a1_1) else (if a1_1 = 0 then (if 0 ≤ (wrap64 ((l0_0.length : Int) - 1)) then (if (wrap64 ((l0_0.length : Int) - 1)) < (l0_0.length : Int) then (if 0 ≤ (wrap64 ((l1_0.length : Int) - 1)) then (if (wrap64 ((l1_0.length : Int) - 1)) < (l1_0.length : Int) then (standbyref55_Delay.j0 k (decide ((rd l0_0 (wrap64 ((l0_0.length : Int) - 1))) > (rd l1_0 (wrap64 ((l1_0.length : Int) - 1))))) l0_0 a0_1 l1_0 a1_1) else (none)) else (none)) else (none)) else (none)) else (standbyref55_Delay.j0 k false l0_0 a0_1 l1_0 a1_1))) else (some (0, t288))) = some (r1, r2) := H
 have A3 := Aside0.mk A30
 clear A30
 by_cases c4 : t288 = 0
 case neg =>
  rw [if_neg c4] at H
  have c4b0 : (t288 == 0) = false := beq_eq_false_iff_ne.mpr c4
  have c4b1 : (t288 != 0) = true := bne_iff_ne.mpr c4
  simp only [Option.some.injEq, Prod.mk.injEq] at H
  obtain ⟨rfl, rfl⟩ := H
  go_enter Try.func25, Try.ntmps25
  go_wp2_with (first | ((with_reducible refine gate_dst (N := 2) rfl ?_); (try (refine gate_guard (by rfl) ?_; dsimp only)); refine box_event ?hg (N := 2) ?hd (cs := #[.slice A0_0 l0_0.length c0_0, .int .i64 a0_1]) (t := 24) ?hr ?_; (case hd => rfl); (case hg => rfl); (case hr => first | (go_simp; done) | (go_simp; rfl)); intro gb286 hg w38 hbox hb; have n0_ := Aside0.mk (below_step (qW HB.out) hb); have n1_ := Aside0.mk (hbox); have n2_ := Aside0.mk ((by rw [hg]; exact (below_size (qW HB.out)) : w.heap.size ≤ gb286)); have n3_ := Aside0.mk ((by rw [hg]; exact (below_size (qW HB.out)) : w.heap.size ≤ gb286)); clear HB; have HB := n0_; have BK286 := n1_; have GW286 := n2_; have GE286 := n3_; clear n0_ n1_ n2_ n3_ hb hbox hg) | ((with_reducible refine gate_dst (N := 3) rfl ?_); (try (refine gate_guard (by rfl) ?_; dsimp only)); refine box_event ?hg (N := 3) ?hd (cs := #[.slice A1_0 l1_0.length c1_0, .int .i64 a1_1]) (t := 24) ?hr ?_; (case hd => rfl); (case hg => rfl); (case hr => first | (go_simp; done) | (go_simp; rfl)); intro gb287 hg w39 hbox hb; have n0_ := Aside0.mk (blk_below (qB BK286.out) hb); have n1_ := Aside0.mk (below_step (qW HB.out) hb); have n2_ := Aside0.mk (hbox); have n3_ := Aside0.mk ((by rw [hg]; exact (below_size (qW HB.out)) : w.heap.size ≤ gb287)); have n4_ := Aside0.mk ((by rw [hg]; exact (below_size (qW HB.out)) : w.heap.size ≤ gb287)); have n5_ := Aside0.mk ((by rw [hg]; exact Nat.ne_of_lt (blk_lt (qB BK286.out)) : gb286 ≠ gb287)); have n6_ := Aside0.mk ((by rw [hg]; exact Nat.ne_of_gt (blk_lt (qB BK286.out)) : gb287 ≠ gb286)); clear BK286 HB; have BK286 := n0_; have HB := n1_; have BK287 := n2_; have GW287 := n3_; have GE287 := n4_; have NB286_287 := n5_; have NB287_286 := n6_; clear n0_ n1_ n2_ n3_ n4_ n5_ n6_ hb hbox hg; have hnb40 := NB286_287.out; have hnc40 := NB287_286.out; have hcz41_0 : w39.cell? ⟨gb286, 0, none⟩ = some (.slice A0_0 l0_0.length c0_0) := (blk_cell BK286.out 0).trans rfl; have hcz41_1 : w39.cell? ⟨gb286, 1, none⟩ = some (.int .i64 a0_1) := (blk_cell BK286.out 1).trans rfl; have hfz41_0 := blk_frozen BK286.out 0; have hfz41_1 := blk_frozen BK286.out 1; have hcz42_0 : w39.cell? ⟨gb287, 0, none⟩ = some (.slice A1_0 l1_0.length c1_0) := (blk_cell BK287.out 0).trans rfl; have hcz42_1 : w39.cell? ⟨gb287, 1, none⟩ = some (.int .i64 a1_1) := (blk_cell BK287.out 1).trans rfl; have hfz42_0 := blk_frozen BK287.out 0; have hfz42_1 := blk_frozen BK287.out 1) | ((with_reducible refine gate_callee (f := 51) rfl ?_); refine goesL_ (some 11) rfl rfl Try.func51 (by kernel_rfl) rfl #[.agg #[.slice A0_0 l0_0.length c0_0, .int .i64 a0_1], .agg #[.slice A1_0 l1_0.length c1_0, .int .i64 a1_1]] rfl (by (try simp only [List.map_toArray, List.map_cons, List.map_nil]); first | done | rfl | (simp only [List.length_drop, List.length_take]; rfl)) ?_; (with_reducible refine (standbyref55_pair.calls k _ _ l0_0 a0_1 _ _ l1_0 a1_1 t288 _ ?side1 ?side2 ?side3 ?side4 A3.out).mono ?_); (case side1 => exact qC HR0_0.out HB.out); (case side2 => exact HC0_0.out); (case side3 => exact qC HR1_0.out HB.out); (case side4 => exact HC1_0.out); rintro e w43 ⟨rfl, hb⟩; refine ⟨_, rfl, ?_⟩; have n0_ := Aside0.mk (blk_below (qB BK286.out) hb); have n1_ := Aside0.mk (blk_below (qB BK287.out) hb); have n2_ := Aside0.mk (below_step (qW HB.out) hb); clear BK286 BK287 HB; have BK286 := n0_; have BK287 := n1_; have HB := n2_; clear n0_ n1_ n2_; (try clear hb); (try clear hb2); (try clear hk); (try clear hi)))
  go_ret2
  exact ⟨by first | rfl | (simp [errW_none, errW_some] <;> rfl) | (simp [*, errW_none, errW_some] <;> rfl), by repeat (first | (with_reducible first | exact HB.out | apply below_alloc | apply pw_below_drewN | apply below_drew1 | refine below_set ?_ GE286.out | refine below_set ?_ GE287.out) | exact HB.out)⟩

 rw [if_pos c4] at H
 have c4b0 : (t288 == 0) = true := beq_iff_eq.mpr c4
 have c4b1 : (t288 != 0) = false := bne_eq_false_iff_eq.mpr c4
 clear c4
 have HC5 := Aside0.mk H
 clear H
 go_enter Try.func25, Try.ntmps25
 go_upto_region 4 with (first | ((with_reducible refine gate_dst (N := 2) rfl ?_); (try (refine gate_guard (by rfl) ?_; dsimp only)); refine box_event ?hg (N := 2) ?hd (cs := #[.slice A0_0 l0_0.length c0_0, .int .i64 a0_1]) (t := 24) ?hr ?_; (case hd => rfl); (case hg => rfl); (case hr => first | (go_simp; done) | (go_simp; rfl)); intro gb286 hg w6 hbox hb; have n0_ := Aside0.mk (below_step (qW HB.out) hb); have n1_ := Aside0.mk (hbox); have n2_ := Aside0.mk ((by rw [hg]; exact (below_size (qW HB.out)) : w.heap.size ≤ gb286)); have n3_ := Aside0.mk ((by rw [hg]; exact (below_size (qW HB.out)) : w.heap.size ≤ gb286)); clear HB; have HB := n0_; have BK286 := n1_; have GW286 := n2_; have GE286 := n3_; clear n0_ n1_ n2_ n3_ hb hbox hg) | ((with_reducible refine gate_dst (N := 3) rfl ?_); (try (refine gate_guard (by rfl) ?_; dsimp only)); refine box_event ?hg (N := 3) ?hd (cs := #[.slice A1_0 l1_0.length c1_0, .int .i64 a1_1]) (t := 24) ?hr ?_; (case hd => rfl); (case hg => rfl); (case hr => first | (go_simp; done) | (go_simp; rfl)); intro gb287 hg w7 hbox hb; have n0_ := Aside0.mk (blk_below (qB BK286.out) hb); have n1_ := Aside0.mk (below_step (qW HB.out) hb); have n2_ := Aside0.mk (hbox); have n3_ := Aside0.mk ((by rw [hg]; exact (below_size (qW HB.out)) : w.heap.size ≤ gb287)); have n4_ := Aside0.mk ((by rw [hg]; exact (below_size (qW HB.out)) : w.heap.size ≤ gb287)); have n5_ := Aside0.mk ((by rw [hg]; exact Nat.ne_of_lt (blk_lt (qB BK286.out)) : gb286 ≠ gb287)); have n6_ := Aside0.mk ((by rw [hg]; exact Nat.ne_of_gt (blk_lt (qB BK286.out)) : gb287 ≠ gb286)); clear BK286 HB; have BK286 := n0_; have HB := n1_; have BK287 := n2_; have GW287 := n3_; have GE287 := n4_; have NB286_287 := n5_; have NB287_286 := n6_; clear n0_ n1_ n2_ n3_ n4_ n5_ n6_ hb hbox hg; have hnb8 := NB286_287.out; have hnc8 := NB287_286.out; have hcz9_0 : w7.cell? ⟨gb286, 0, none⟩ = some (.slice A0_0 l0_0.length c0_0) := (blk_cell BK286.out 0).trans rfl; have hcz9_1 : w7.cell? ⟨gb286, 1, none⟩ = some (.int .i64 a0_1) := (blk_cell BK286.out 1).trans rfl; have hfz9_0 := blk_frozen BK286.out 0; have hfz9_1 := blk_frozen BK286.out 1; have hcz10_0 : w7.cell? ⟨gb287, 0, none⟩ = some (.slice A1_0 l1_0.length c1_0) := (blk_cell BK287.out 0).trans rfl; have hcz10_1 : w7.cell? ⟨gb287, 1, none⟩ = some (.int .i64 a1_1) := (blk_cell BK287.out 1).trans rfl; have hfz10_0 := blk_frozen BK287.out 0; have hfz10_1 := blk_frozen BK287.out 1) | ((with_reducible refine gate_callee (f := 51) rfl ?_); refine goesL_ (some 11) rfl rfl Try.func51 (by kernel_rfl) rfl #[.agg #[.slice A0_0 l0_0.length c0_0, .int .i64 a0_1], .agg #[.slice A1_0 l1_0.length c1_0, .int .i64 a1_1]] rfl (by (try simp only [List.map_toArray, List.map_cons, List.map_nil]); first | done | rfl | (simp only [List.length_drop, List.length_take]; rfl)) ?_; (with_reducible refine (standbyref55_pair.calls k _ _ l0_0 a0_1 _ _ l1_0 a1_1 t288 _ ?side1 ?side2 ?side3 ?side4 A3.out).mono ?_); (case side1 => exact qC HR0_0.out HB.out); (case side2 => exact HC0_0.out); (case side3 => exact qC HR1_0.out HB.out); (case side4 => exact HC1_0.out); rintro e w11 ⟨rfl, hb⟩; refine ⟨_, rfl, ?_⟩; have n0_ := Aside0.mk (blk_below (qB BK286.out) hb); have n1_ := Aside0.mk (blk_below (qB BK287.out) hb); have n2_ := Aside0.mk (below_step (qW HB.out) hb); clear BK286 BK287 HB; have BK286 := n0_; have BK287 := n1_; have HB := n2_; clear n0_ n1_ n2_; (try clear hb); (try clear hb2); (try clear hk); (try clear hi)))
 (try simp only [Act.put, List.setIfInBounds_toArray, List.set_cons_zero, List.set_cons_succ])
 go_cut [43] (fun v43 wc => ∃ (kq : Nat) (x43_4 : Bool), v43 = .bool x43_4 ∧ Aside0 (standbyref55_Delay.j0 kq x43_4 l0_0 a0_1 l1_0 a1_1 = some (r1, r2)) ∧ Aside0 (kq ≤ k) ∧ Aside0 (wc.heap[gb286]? = some (.cells #[(.slice A0_0 l0_0.length c0_0), .int .i64 a0_1] 24 (0, 0))) ∧ Aside0 (wc.heap[gb287]? = some (.cells #[(.slice A1_0 l1_0.length c1_0), .int .i64 a1_1] 24 (0, 0))) ∧ Aside0 (Below w.heap.size w wc))
 case first =>
  have H := HC5.out
  clear HC5
  by_cases c12 : a0_1 > a1_1
  ·rw [if_pos c12] at H
   have c12b0 : decide (a1_1 < a0_1) = true := decide_eq_true c12
   clear c12
   (first | rw [c12b0] | (simp only [i64_w, i32_w]; rw [c12b0]) | skip)
   have H' := Aside0.mk H
   clear H
   try go_wp2
   have n0_ := Aside0.mk (blk_drew BK286.out)
   have n1_ := Aside0.mk (blk_drew BK287.out)
   have n2_ := Aside0.mk (below_drew1 HB.out)
   clear BK286 BK287 HB
   have BK286 := n0_
   have BK287 := n1_
   have HB := n2_
   clear n0_ n1_ n2_
   refine start_ (n := 29) (S := fun w' => w'.cell? ⟨gb286, 0, none⟩ = some (.slice A0_0 l0_0.length c0_0) ∧ w'.cell? ⟨gb286, 1, none⟩ = some (.int .i64 a0_1) ∧ w'.cell? ⟨gb287, 0, none⟩ = some (.slice A1_0 l1_0.length c1_0) ∧ w'.cell? ⟨gb287, 1, none⟩ = some (.int .i64 a1_1)) (ds := []) #[false, false, false, false, false, false, false, false, false, false, false, false, false, false, false, false, false, false, false, false, false, false, false, false, false, false, false, false, false] (by kernel_rfl) rfl rfl ⟨(blk_cell BK286.out 0).trans rfl, (blk_cell BK286.out 1).trans rfl, (blk_cell BK287.out 0).trans rfl, (blk_cell BK287.out 1).trans rfl⟩ (fun hHeld => ?_); refine with_tabW standbyref55_Delay.tab4 standbyref55_Delay.bits4 (fun HT_ HW_ => ?_)
   generalize w11.drew = w13 at BK286 BK287 HB hHeld ⊢
   refine pS (i := 0) (N := some 15) #[true, false, false, false, false, false, false, false, false, false, false, false, false, false, false, false, false, false, false, false, false, false, false, false, false, false, false, false, false] rfl rfl HT_.out ?_
   refine pS (i := 2) (N := some 17) #[true, false, true, false, false, false, false, false, false, false, false, false, false, false, false, false, false, false, false, false, false, false, false, false, false, false, false, false, false] rfl rfl HT_.out ?_
   refine take_ (i := 1) (N := some 16) (v := ?_) (a' := ?_) #[true, true, true, false, false, false, false, false, false, false, false, false, false, false, false, false, false, false, false, false, false, false, false, false, false, false, false, false, false] rfl rfl (take_ofW HT_.out HW_.out (by kernel_rfl)) (fun _ _ _ h => h) (Or.inl ⟨by rfl, ?_⟩) hHeld ?_ ?_; rotate_left
   ·rintro w' ⟨s0, s1, s2, s3⟩
    go_simp
    with_reducible rfl
   rotate_left
   ·simp only [Act.put, List.setIfInBounds_toArray, List.set_cons_zero, List.set_cons_succ, i64_w, i32_w]
    rfl
   refine take_ (i := 3) (N := some 18) (v := ?_) (a' := ?_) #[true, true, true, true, false, false, false, false, false, false, false, false, false, false, false, false, false, false, false, false, false, false, false, false, false, false, false, false, false] rfl rfl (take_ofW HT_.out HW_.out (by kernel_rfl)) (fun _ _ _ h => h) (Or.inl ⟨by rfl, ?_⟩) hHeld ?_ ?_; rotate_left
   ·rintro w' ⟨s0, s1, s2, s3⟩
    go_simp
    with_reducible rfl
   rotate_left
   ·simp only [Act.put, List.setIfInBounds_toArray, List.set_cons_zero, List.set_cons_succ, i64_w, i32_w]
    rfl
   refine pS (i := 4) (N := some 19) #[true, true, true, true, true, false, false, false, false, false, false, false, false, false, false, false, false, false, false, false, false, false, false, false, false, false, false, false, false] rfl rfl HT_.out ?_
   refine pS (i := 5) (N := some 20) #[true, true, true, true, true, true, false, false, false, false, false, false, false, false, false, false, false, false, false, false, false, false, false, false, false, false, false, false, false] rfl rfl HT_.out ?_
   refine pU (i := 6) (N := some 21) #[true, true, true, true, true, true, true, false, false, false, false, false, false, false, false, false, false, false, false, false, false, false, false, false, false, false, false, false, false] rfl rfl HT_.out ?_
   refine pU (i := 7) (N := some 22) #[true, true, true, true, true, true, true, true, false, false, false, false, false, false, false, false, false, false, false, false, false, false, false, false, false, false, false, false, false] rfl rfl HT_.out ?_
   refine pU (i := 8) (N := some 23) #[true, true, true, true, true, true, true, true, true, false, false, false, false, false, false, false, false, false, false, false, false, false, false, false, false, false, false, false, false] rfl rfl HT_.out ?_
   refine pU (i := 9) (N := some 24) #[true, true, true, true, true, true, true, true, true, true, false, false, false, false, false, false, false, false, false, false, false, false, false, false, false, false, false, false, false] rfl rfl HT_.out ?_
   refine pU (i := 10) (N := some 25) #[true, true, true, true, true, true, true, true, true, true, true, false, false, false, false, false, false, false, false, false, false, false, false, false, false, false, false, false, false] rfl rfl HT_.out ?_
   refine pU (i := 11) (N := some 26) #[true, true, true, true, true, true, true, true, true, true, true, true, false, false, false, false, false, false, false, false, false, false, false, false, false, false, false, false, false] rfl rfl HT_.out ?_
   refine pU (i := 12) (N := some 27) #[true, true, true, true, true, true, true, true, true, true, true, true, true, false, false, false, false, false, false, false, false, false, false, false, false, false, false, false, false] rfl rfl HT_.out ?_
   refine pU (i := 13) (N := some 28) #[true, true, true, true, true, true, true, true, true, true, true, true, true, true, false, false, false, false, false, false, false, false, false, false, false, false, false, false, false] rfl rfl HT_.out ?_
   refine pU (i := 14) (N := some 29) #[true, true, true, true, true, true, true, true, true, true, true, true, true, true, true, false, false, false, false, false, false, false, false, false, false, false, false, false, false] rfl rfl HT_.out ?_
   refine pU (i := 15) (N := some 30) #[true, true, true, true, true, true, true, true, true, true, true, true, true, true, true, true, false, false, false, false, false, false, false, false, false, false, false, false, false] rfl rfl HT_.out ?_
   refine pU (i := 16) (N := some 31) #[true, true, true, true, true, true, true, true, true, true, true, true, true, true, true, true, true, false, false, false, false, false, false, false, false, false, false, false, false] rfl rfl HT_.out ?_
   refine pU (i := 17) (N := some 32) #[true, true, true, true, true, true, true, true, true, true, true, true, true, true, true, true, true, true, false, false, false, false, false, false, false, false, false, false, false] rfl rfl HT_.out ?_
   refine pU (i := 18) (N := some 33) #[true, true, true, true, true, true, true, true, true, true, true, true, true, true, true, true, true, true, true, false, false, false, false, false, false, false, false, false, false] rfl rfl HT_.out ?_
   refine pU (i := 19) (N := some 34) #[true, true, true, true, true, true, true, true, true, true, true, true, true, true, true, true, true, true, true, true, false, false, false, false, false, false, false, false, false] rfl rfl HT_.out ?_
   refine pU (i := 20) (N := some 35) #[true, true, true, true, true, true, true, true, true, true, true, true, true, true, true, true, true, true, true, true, true, false, false, false, false, false, false, false, false] rfl rfl HT_.out ?_
   refine pU (i := 21) (N := some 36) #[true, true, true, true, true, true, true, true, true, true, true, true, true, true, true, true, true, true, true, true, true, true, false, false, false, false, false, false, false] rfl rfl HT_.out ?_
   refine pU (i := 22) (N := some 37) #[true, true, true, true, true, true, true, true, true, true, true, true, true, true, true, true, true, true, true, true, true, true, true, false, false, false, false, false, false] rfl rfl HT_.out ?_
   refine pU (i := 23) (N := some 38) #[true, true, true, true, true, true, true, true, true, true, true, true, true, true, true, true, true, true, true, true, true, true, true, true, false, false, false, false, false] rfl rfl HT_.out ?_
   refine pU (i := 24) (N := some 39) #[true, true, true, true, true, true, true, true, true, true, true, true, true, true, true, true, true, true, true, true, true, true, true, true, true, false, false, false, false] rfl rfl HT_.out ?_
   refine pU (i := 25) (N := some 40) #[true, true, true, true, true, true, true, true, true, true, true, true, true, true, true, true, true, true, true, true, true, true, true, true, true, true, false, false, false] rfl rfl HT_.out ?_
   refine pU (i := 26) (N := some 41) #[true, true, true, true, true, true, true, true, true, true, true, true, true, true, true, true, true, true, true, true, true, true, true, true, true, true, true, false, false] rfl rfl HT_.out ?_
   refine pU (i := 27) (N := some 42) #[true, true, true, true, true, true, true, true, true, true, true, true, true, true, true, true, true, true, true, true, true, true, true, true, true, true, true, true, false] rfl rfl HT_.out ?_
   refine pS (i := 28) (N := some 43) #[true, true, true, true, true, true, true, true, true, true, true, true, true, true, true, true, true, true, true, true, true, true, true, true, true, true, true, true, true] rfl rfl HT_.out ?_
   refine done_ (done_of HT_.out (by kernel_rfl)) ?_
   try go_wp2
   go_meet
   case rel => exact ⟨_, (true), (by first | rfl | (simp; done) | (simp [*]; done)), H', ⟨by first | omega | exact Nat.le_refl _⟩, ⟨by exact qB BK286.out⟩, ⟨by exact qB BK287.out⟩, ⟨by repeat (first | (with_reducible first | exact HB.out | apply below_alloc | apply pw_below_drewN | apply below_drew1 | refine below_set ?_ GE286.out | refine below_set ?_ GE287.out) | exact HB.out)⟩⟩
  ·rw [if_neg c12] at H
   have c12b0 : decide (a1_1 < a0_1) = false := decide_eq_false c12
   clear c12
   (first | rw [c12b0] | (simp only [i64_w, i32_w]; rw [c12b0]) | skip)
   by_cases c14 : a1_1 = 0
   case neg =>
    rw [if_neg c14] at H
    have c14b0 : (a1_1 == 0) = false := beq_eq_false_iff_ne.mpr c14
    have c14b1 : (a1_1 != 0) = true := bne_iff_ne.mpr c14
    have H' := Aside0.mk H
    clear H
    try go_wp2
    have n0_ := Aside0.mk (blk_drew BK286.out)
    have n1_ := Aside0.mk (blk_drew BK287.out)
    have n2_ := Aside0.mk (below_drew1 HB.out)
    clear BK286 BK287 HB
    have BK286 := n0_
    have BK287 := n1_
    have HB := n2_
    clear n0_ n1_ n2_
    refine start_ (n := 29) (S := fun w' => w'.cell? ⟨gb286, 0, none⟩ = some (.slice A0_0 l0_0.length c0_0) ∧ w'.cell? ⟨gb286, 1, none⟩ = some (.int .i64 a0_1) ∧ w'.cell? ⟨gb287, 0, none⟩ = some (.slice A1_0 l1_0.length c1_0) ∧ w'.cell? ⟨gb287, 1, none⟩ = some (.int .i64 a1_1)) (ds := []) #[false, false, false, false, false, false, false, false, false, false, false, false, false, false, false, false, false, false, false, false, false, false, false, false, false, false, false, false, false] (by kernel_rfl) rfl rfl ⟨(blk_cell BK286.out 0).trans rfl, (blk_cell BK286.out 1).trans rfl, (blk_cell BK287.out 0).trans rfl, (blk_cell BK287.out 1).trans rfl⟩ (fun hHeld => ?_); refine with_tabW standbyref55_Delay.tab4 standbyref55_Delay.bits4 (fun HT_ HW_ => ?_)
    generalize w11.drew = w22 at BK286 BK287 HB hHeld ⊢
    refine pS (i := 0) (N := some 15) #[true, false, false, false, false, false, false, false, false, false, false, false, false, false, false, false, false, false, false, false, false, false, false, false, false, false, false, false, false] rfl rfl HT_.out ?_
    refine pS (i := 2) (N := some 17) #[true, false, true, false, false, false, false, false, false, false, false, false, false, false, false, false, false, false, false, false, false, false, false, false, false, false, false, false, false] rfl rfl HT_.out ?_
    refine take_ (i := 1) (N := some 16) (v := ?_) (a' := ?_) #[true, true, true, false, false, false, false, false, false, false, false, false, false, false, false, false, false, false, false, false, false, false, false, false, false, false, false, false, false] rfl rfl (take_ofW HT_.out HW_.out (by kernel_rfl)) (fun _ _ _ h => h) (Or.inl ⟨by rfl, ?_⟩) hHeld ?_ ?_; rotate_left
    ·rintro w' ⟨s0, s1, s2, s3⟩
     go_simp
     with_reducible rfl
    rotate_left
    ·simp only [Act.put, List.setIfInBounds_toArray, List.set_cons_zero, List.set_cons_succ, i64_w, i32_w]
     rfl
    refine take_ (i := 3) (N := some 18) (v := ?_) (a' := ?_) #[true, true, true, true, false, false, false, false, false, false, false, false, false, false, false, false, false, false, false, false, false, false, false, false, false, false, false, false, false] rfl rfl (take_ofW HT_.out HW_.out (by kernel_rfl)) (fun _ _ _ h => h) (Or.inl ⟨by rfl, ?_⟩) hHeld ?_ ?_; rotate_left
    ·rintro w' ⟨s0, s1, s2, s3⟩
     go_simp
     with_reducible rfl
    rotate_left
    ·simp only [Act.put, List.setIfInBounds_toArray, List.set_cons_zero, List.set_cons_succ, i64_w, i32_w]
     rfl
    refine pS (i := 4) (N := some 19) #[true, true, true, true, true, false, false, false, false, false, false, false, false, false, false, false, false, false, false, false, false, false, false, false, false, false, false, false, false] rfl rfl HT_.out ?_
    refine pS (i := 5) (N := some 20) #[true, true, true, true, true, true, false, false, false, false, false, false, false, false, false, false, false, false, false, false, false, false, false, false, false, false, false, false, false] rfl rfl HT_.out ?_
    refine pS (i := 6) (N := some 21) #[true, true, true, true, true, true, true, false, false, false, false, false, false, false, false, false, false, false, false, false, false, false, false, false, false, false, false, false, false] rfl rfl HT_.out ?_
    refine take_ (i := 7) (N := some 22) (v := ?_) (a' := ?_) #[true, true, true, true, true, true, true, true, false, false, false, false, false, false, false, false, false, false, false, false, false, false, false, false, false, false, false, false, false] rfl rfl (take_ofW HT_.out HW_.out (by kernel_rfl)) (fun _ _ _ h => h) (Or.inl ⟨by rfl, ?_⟩) hHeld ?_ ?_; rotate_left
    ·rintro w' ⟨s0, s1, s2, s3⟩
     go_simp
     with_reducible rfl
    rotate_left
    ·simp only [Act.put, List.setIfInBounds_toArray, List.set_cons_zero, List.set_cons_succ, i64_w, i32_w]
     rfl
    refine pS (i := 8) (N := some 23) #[true, true, true, true, true, true, true, true, true, false, false, false, false, false, false, false, false, false, false, false, false, false, false, false, false, false, false, false, false] rfl rfl HT_.out ?_
    refine pS (i := 9) (N := some 24) #[true, true, true, true, true, true, true, true, true, true, false, false, false, false, false, false, false, false, false, false, false, false, false, false, false, false, false, false, false] rfl rfl HT_.out ?_
    refine pU (i := 10) (N := some 25) #[true, true, true, true, true, true, true, true, true, true, true, false, false, false, false, false, false, false, false, false, false, false, false, false, false, false, false, false, false] rfl rfl HT_.out ?_
    refine pU (i := 11) (N := some 26) #[true, true, true, true, true, true, true, true, true, true, true, true, false, false, false, false, false, false, false, false, false, false, false, false, false, false, false, false, false] rfl rfl HT_.out ?_
    refine pU (i := 12) (N := some 27) #[true, true, true, true, true, true, true, true, true, true, true, true, true, false, false, false, false, false, false, false, false, false, false, false, false, false, false, false, false] rfl rfl HT_.out ?_
    refine pU (i := 13) (N := some 28) #[true, true, true, true, true, true, true, true, true, true, true, true, true, true, false, false, false, false, false, false, false, false, false, false, false, false, false, false, false] rfl rfl HT_.out ?_
    refine pU (i := 14) (N := some 29) #[true, true, true, true, true, true, true, true, true, true, true, true, true, true, true, false, false, false, false, false, false, false, false, false, false, false, false, false, false] rfl rfl HT_.out ?_
    refine pU (i := 15) (N := some 30) #[true, true, true, true, true, true, true, true, true, true, true, true, true, true, true, true, false, false, false, false, false, false, false, false, false, false, false, false, false] rfl rfl HT_.out ?_
    refine pU (i := 16) (N := some 31) #[true, true, true, true, true, true, true, true, true, true, true, true, true, true, true, true, true, false, false, false, false, false, false, false, false, false, false, false, false] rfl rfl HT_.out ?_
    refine pU (i := 17) (N := some 32) #[true, true, true, true, true, true, true, true, true, true, true, true, true, true, true, true, true, true, false, false, false, false, false, false, false, false, false, false, false] rfl rfl HT_.out ?_
    refine pU (i := 18) (N := some 33) #[true, true, true, true, true, true, true, true, true, true, true, true, true, true, true, true, true, true, true, false, false, false, false, false, false, false, false, false, false] rfl rfl HT_.out ?_
    refine pU (i := 19) (N := some 34) #[true, true, true, true, true, true, true, true, true, true, true, true, true, true, true, true, true, true, true, true, false, false, false, false, false, false, false, false, false] rfl rfl HT_.out ?_
    refine pU (i := 20) (N := some 35) #[true, true, true, true, true, true, true, true, true, true, true, true, true, true, true, true, true, true, true, true, true, false, false, false, false, false, false, false, false] rfl rfl HT_.out ?_
    refine pU (i := 21) (N := some 36) #[true, true, true, true, true, true, true, true, true, true, true, true, true, true, true, true, true, true, true, true, true, true, false, false, false, false, false, false, false] rfl rfl HT_.out ?_
    refine pU (i := 22) (N := some 37) #[true, true, true, true, true, true, true, true, true, true, true, true, true, true, true, true, true, true, true, true, true, true, true, false, false, false, false, false, false] rfl rfl HT_.out ?_
    refine pU (i := 23) (N := some 38) #[true, true, true, true, true, true, true, true, true, true, true, true, true, true, true, true, true, true, true, true, true, true, true, true, false, false, false, false, false] rfl rfl HT_.out ?_
    refine pU (i := 24) (N := some 39) #[true, true, true, true, true, true, true, true, true, true, true, true, true, true, true, true, true, true, true, true, true, true, true, true, true, false, false, false, false] rfl rfl HT_.out ?_
    refine pU (i := 25) (N := some 40) #[true, true, true, true, true, true, true, true, true, true, true, true, true, true, true, true, true, true, true, true, true, true, true, true, true, true, false, false, false] rfl rfl HT_.out ?_
    refine pU (i := 26) (N := some 41) #[true, true, true, true, true, true, true, true, true, true, true, true, true, true, true, true, true, true, true, true, true, true, true, true, true, true, true, false, false] rfl rfl HT_.out ?_
    refine pS (i := 27) (N := some 42) #[true, true, true, true, true, true, true, true, true, true, true, true, true, true, true, true, true, true, true, true, true, true, true, true, true, true, true, true, false] rfl rfl HT_.out ?_
    refine pS (i := 28) (N := some 43) #[true, true, true, true, true, true, true, true, true, true, true, true, true, true, true, true, true, true, true, true, true, true, true, true, true, true, true, true, true] rfl rfl HT_.out ?_
    refine done_ (done_of HT_.out (by kernel_rfl)) ?_
    try go_wp2
    go_meet
    case rel => exact ⟨_, (false), (by first | rfl | (simp; done) | (simp [*]; done)), H', ⟨by first | omega | exact Nat.le_refl _⟩, ⟨by exact qB BK286.out⟩, ⟨by exact qB BK287.out⟩, ⟨by repeat (first | (with_reducible first | exact HB.out | apply below_alloc | apply pw_below_drewN | apply below_drew1 | refine below_set ?_ GE286.out | refine below_set ?_ GE287.out) | exact HB.out)⟩⟩
   rw [if_pos c14] at H
   have c14b0 : (a1_1 == 0) = true := beq_iff_eq.mpr c14
   have c14b1 : (a1_1 != 0) = false := bne_eq_false_iff_eq.mpr c14
   clear c14
   obtain ⟨ji15, hji15⟩ : ∃ j_ : Int, (wrap64 ((l0_0.length : Int) - 1)) = j_ := ⟨_, rfl⟩
   replace H : (if 0 ≤ (ji15) then (if (ji15) < (l0_0.length : Int) then (if 0 ≤ (wrap64 ((l1_0.length : Int) - 1)) then (if (wrap64 ((l1_0.length : Int) - 1)) < (l1_0.length : Int) then (standbyref55_Delay.j0 k (decide ((rd l0_0 (ji15)) > (rd l1_0 (wrap64 ((l1_0.length : Int) - 1))))) l0_0 a0_1 l1_0 a1_1) else (none)) else (none)) else (none)) else (none)) = some (r1, r2) := by first | (rw [hji15] at H; exact H) | (simp only [hji15] at H ⊢; exact H)
   have hji15w : (IntKind.i64.wrap ((l0_0.length : Int) - 1)) = ji15 := (i64_w _).trans hji15
   by_cases c16 : 0 ≤ (ji15)
   case neg =>
    rw [if_neg c16] at H
    exact absurd H (by simp)
   rw [if_pos c16] at H
   have c16b0 : decide (0 ≤ (ji15)) = true := decide_eq_true c16
   clear c16
   by_cases c17 : (ji15) < (l0_0.length : Int)
   case neg =>
    rw [if_neg c17] at H
    exact absurd H (by simp)
   rw [if_pos c17] at H
   have c17b0 : decide ((ji15) < (l0_0.length : Int)) = true := decide_eq_true c17
   clear c17
   obtain ⟨ji18, hji18⟩ : ∃ j_ : Int, (wrap64 ((l1_0.length : Int) - 1)) = j_ := ⟨_, rfl⟩
   replace H : (if 0 ≤ (ji18) then (if (ji18) < (l1_0.length : Int) then (standbyref55_Delay.j0 k (decide ((rd l0_0 (ji15)) > (rd l1_0 (ji18)))) l0_0 a0_1 l1_0 a1_1) else (none)) else (none)) = some (r1, r2) := by first | (rw [hji18] at H; exact H) | (simp only [hji18] at H ⊢; exact H)
   have hji18w : (IntKind.i64.wrap ((l1_0.length : Int) - 1)) = ji18 := (i64_w _).trans hji18
   by_cases c19 : 0 ≤ (ji18)
   case neg =>
    rw [if_neg c19] at H
    exact absurd H (by simp)
   rw [if_pos c19] at H
   have c19b0 : decide (0 ≤ (ji18)) = true := decide_eq_true c19
   clear c19
   by_cases c20 : (ji18) < (l1_0.length : Int)
   case neg =>
    rw [if_neg c20] at H
    exact absurd H (by simp)
   rw [if_pos c20] at H
   have c20b0 : decide ((ji18) < (l1_0.length : Int)) = true := decide_eq_true c20
   clear c20
   have H' := Aside0.mk H
   clear H
   try go_wp2
   have n0_ := Aside0.mk (blk_drew BK286.out)
   have n1_ := Aside0.mk (blk_drew BK287.out)
   have n2_ := Aside0.mk (below_drew1 HB.out)
   clear BK286 BK287 HB
   have BK286 := n0_
   have BK287 := n1_
   have HB := n2_
   clear n0_ n1_ n2_
   have p289 : 0 ≤ ((ji15) : Int) := of_decide_eq_true (by first | (with_reducible assumption) | assumption)
   have q289 : (ji15) < (l0_0.length : Int) := of_decide_eq_true (by first | (with_reducible assumption) | assumption)
   obtain ⟨ad289, e289, hx289_0⟩ := Kd.at_int HR0_0.out (ji15) p289 q289
   have hw289_0 := hx289_0
   cases e289
   replace hx289_0 := (HB.out.cell (World.block_lt_of_cell? w _ hx289_0)).trans hx289_0
   replace p289 := eq_true p289
   replace q289 := eq_true q289
   have p290 : 0 ≤ ((ji18) : Int) := of_decide_eq_true (by first | (with_reducible assumption) | assumption)
   have q290 : (ji18) < (l1_0.length : Int) := of_decide_eq_true (by first | (with_reducible assumption) | assumption)
   obtain ⟨ad290, e290, hx290_0⟩ := Kd.at_int HR1_0.out (ji18) p290 q290
   have hw290_0 := hx290_0
   cases e290
   replace hx290_0 := (HB.out.cell (World.block_lt_of_cell? w _ hx290_0)).trans hx290_0
   replace p290 := eq_true p290
   replace q290 := eq_true q290
   refine start_ (n := 29) (S := fun w' => w'.cell? ⟨gb286, 0, none⟩ = some (.slice (some ad289) l0_0.length c0_0) ∧ w'.cell? ⟨gb286, 1, none⟩ = some (.int .i64 a0_1) ∧ w'.cell? ⟨gb287, 0, none⟩ = some (.slice (some ad290) l1_0.length c1_0) ∧ w'.cell? ⟨gb287, 1, none⟩ = some (.int .i64 a1_1) ∧ w'.cell? (ad289.add ((ji15)).toNat) = some (.int .i64 (rd l0_0 (ji15))) ∧ w'.cell? (ad290.add ((ji18)).toNat) = some (.int .i64 (rd l1_0 (ji18)))) (ds := []) #[false, false, false, false, false, false, false, false, false, false, false, false, false, false, false, false, false, false, false, false, false, false, false, false, false, false, false, false, false] (by kernel_rfl) rfl rfl ⟨(blk_cell BK286.out 0).trans rfl, (blk_cell BK286.out 1).trans rfl, (blk_cell BK287.out 0).trans rfl, (blk_cell BK287.out 1).trans rfl, ((HB.out.cell (World.block_lt_of_cell? w _ hw289_0)).trans hw289_0), ((HB.out.cell (World.block_lt_of_cell? w _ hw290_0)).trans hw290_0)⟩ (fun hHeld => ?_); refine with_tabW standbyref55_Delay.tab4 standbyref55_Delay.bits4 (fun HT_ HW_ => ?_)
   generalize w11.drew = w21 at BK286 BK287 HB hx289_0 hx290_0 hHeld ⊢
   refine pS (i := 0) (N := some 15) #[true, false, false, false, false, false, false, false, false, false, false, false, false, false, false, false, false, false, false, false, false, false, false, false, false, false, false, false, false] rfl rfl HT_.out ?_
   refine pS (i := 2) (N := some 17) #[true, false, true, false, false, false, false, false, false, false, false, false, false, false, false, false, false, false, false, false, false, false, false, false, false, false, false, false, false] rfl rfl HT_.out ?_
   refine take_ (i := 1) (N := some 16) (v := ?_) (a' := ?_) #[true, true, true, false, false, false, false, false, false, false, false, false, false, false, false, false, false, false, false, false, false, false, false, false, false, false, false, false, false] rfl rfl (take_ofW HT_.out HW_.out (by kernel_rfl)) (fun _ _ _ h => h) (Or.inl ⟨by rfl, ?_⟩) hHeld ?_ ?_; rotate_left
   ·rintro w' ⟨s0, s1, s2, s3, s4, s5⟩
    go_simp
    with_reducible rfl
   rotate_left
   ·simp only [Act.put, List.setIfInBounds_toArray, List.set_cons_zero, List.set_cons_succ, i64_w, i32_w]
    rfl
   refine take_ (i := 3) (N := some 18) (v := ?_) (a' := ?_) #[true, true, true, true, false, false, false, false, false, false, false, false, false, false, false, false, false, false, false, false, false, false, false, false, false, false, false, false, false] rfl rfl (take_ofW HT_.out HW_.out (by kernel_rfl)) (fun _ _ _ h => h) (Or.inl ⟨by rfl, ?_⟩) hHeld ?_ ?_; rotate_left
   ·rintro w' ⟨s0, s1, s2, s3, s4, s5⟩
    go_simp
    with_reducible rfl
   rotate_left
   ·simp only [Act.put, List.setIfInBounds_toArray, List.set_cons_zero, List.set_cons_succ, i64_w, i32_w]
    rfl
   refine pS (i := 4) (N := some 19) #[true, true, true, true, true, false, false, false, false, false, false, false, false, false, false, false, false, false, false, false, false, false, false, false, false, false, false, false, false] rfl rfl HT_.out ?_
   refine pS (i := 5) (N := some 20) #[true, true, true, true, true, true, false, false, false, false, false, false, false, false, false, false, false, false, false, false, false, false, false, false, false, false, false, false, false] rfl rfl HT_.out ?_
   refine pS (i := 6) (N := some 21) #[true, true, true, true, true, true, true, false, false, false, false, false, false, false, false, false, false, false, false, false, false, false, false, false, false, false, false, false, false] rfl rfl HT_.out ?_
   refine take_ (i := 7) (N := some 22) (v := ?_) (a' := ?_) #[true, true, true, true, true, true, true, true, false, false, false, false, false, false, false, false, false, false, false, false, false, false, false, false, false, false, false, false, false] rfl rfl (take_ofW HT_.out HW_.out (by kernel_rfl)) (fun _ _ _ h => h) (Or.inl ⟨by rfl, ?_⟩) hHeld ?_ ?_; rotate_left
   ·rintro w' ⟨s0, s1, s2, s3, s4, s5⟩
    go_simp
    with_reducible rfl
   rotate_left
   ·simp only [Act.put, List.setIfInBounds_toArray, List.set_cons_zero, List.set_cons_succ, i64_w, i32_w]
    rfl
   refine pS (i := 8) (N := some 23) #[true, true, true, true, true, true, true, true, true, false, false, false, false, false, false, false, false, false, false, false, false, false, false, false, false, false, false, false, false] rfl rfl HT_.out ?_
   refine pS (i := 9) (N := some 24) #[true, true, true, true, true, true, true, true, true, true, false, false, false, false, false, false, false, false, false, false, false, false, false, false, false, false, false, false, false] rfl rfl HT_.out ?_
   refine pS (i := 10) (N := some 25) #[true, true, true, true, true, true, true, true, true, true, true, false, false, false, false, false, false, false, false, false, false, false, false, false, false, false, false, false, false] rfl rfl HT_.out ?_
   refine pS (i := 12) (N := some 27) #[true, true, true, true, true, true, true, true, true, true, true, false, true, false, false, false, false, false, false, false, false, false, false, false, false, false, false, false, false] rfl rfl HT_.out ?_
   refine pS (i := 18) (N := some 33) #[true, true, true, true, true, true, true, true, true, true, true, false, true, false, false, false, false, false, true, false, false, false, false, false, false, false, false, false, false] rfl rfl HT_.out ?_
   refine pS (i := 20) (N := some 35) #[true, true, true, true, true, true, true, true, true, true, true, false, true, false, false, false, false, false, true, false, true, false, false, false, false, false, false, false, false] rfl rfl HT_.out ?_
   refine take_ (i := 11) (N := some 26) (v := ?_) (a' := ?_) #[true, true, true, true, true, true, true, true, true, true, true, true, true, false, false, false, false, false, true, false, true, false, false, false, false, false, false, false, false] rfl rfl (take_ofW HT_.out HW_.out (by kernel_rfl)) (fun _ _ _ h => h) (Or.inl ⟨by rfl, ?_⟩) hHeld ?_ ?_; rotate_left
   ·rintro w' ⟨s0, s1, s2, s3, s4, s5⟩
    go_simp
    with_reducible rfl
   rotate_left
   ·simp only [Act.put, List.setIfInBounds_toArray, List.set_cons_zero, List.set_cons_succ, i64_w, i32_w]
    rfl
   refine take_ (i := 13) (N := some 28) (v := ?_) (a' := ?_) #[true, true, true, true, true, true, true, true, true, true, true, true, true, true, false, false, false, false, true, false, true, false, false, false, false, false, false, false, false] rfl rfl (take_ofW HT_.out HW_.out (by kernel_rfl)) (fun _ _ _ h => h) (Or.inl ⟨by rfl, ?_⟩) hHeld ?_ ?_; rotate_left
   ·rintro w' ⟨s0, s1, s2, s3, s4, s5⟩
    go_simp
    with_reducible rfl
   rotate_left
   ·simp only [Act.put, List.setIfInBounds_toArray, List.set_cons_zero, List.set_cons_succ, i64_w, i32_w]
    rfl
   refine pS (i := 14) (N := some 29) #[true, true, true, true, true, true, true, true, true, true, true, true, true, true, true, false, false, false, true, false, true, false, false, false, false, false, false, false, false] rfl rfl HT_.out ?_
   refine pS (i := 15) (N := some 30) #[true, true, true, true, true, true, true, true, true, true, true, true, true, true, true, true, false, false, true, false, true, false, false, false, false, false, false, false, false] rfl rfl HT_.out ?_
   refine pS (i := 16) (N := some 31) #[true, true, true, true, true, true, true, true, true, true, true, true, true, true, true, true, true, false, true, false, true, false, false, false, false, false, false, false, false] rfl rfl HT_.out ?_
   refine take_ (i := 17) (N := some 32) (v := ?_) (a' := ?_) #[true, true, true, true, true, true, true, true, true, true, true, true, true, true, true, true, true, true, true, false, true, false, false, false, false, false, false, false, false] rfl rfl (take_ofW HT_.out HW_.out (by kernel_rfl)) (fun _ _ _ h => h) (Or.inl ⟨by rfl, ?_⟩) hHeld ?_ ?_; rotate_left
   ·rintro w' ⟨s0, s1, s2, s3, s4, s5⟩
    go_simp
    with_reducible rfl
   rotate_left
   ·simp only [Act.put, List.setIfInBounds_toArray, List.set_cons_zero, List.set_cons_succ, i64_w, i32_w]
    rfl
   refine take_ (i := 19) (N := some 34) (v := ?_) (a' := ?_) #[true, true, true, true, true, true, true, true, true, true, true, true, true, true, true, true, true, true, true, true, true, false, false, false, false, false, false, false, false] rfl rfl (take_ofW HT_.out HW_.out (by kernel_rfl)) (fun _ _ _ h => h) (Or.inl ⟨by rfl, ?_⟩) hHeld ?_ ?_; rotate_left
   ·rintro w' ⟨s0, s1, s2, s3, s4, s5⟩
    go_simp
    with_reducible rfl
   rotate_left
   ·simp only [Act.put, List.setIfInBounds_toArray, List.set_cons_zero, List.set_cons_succ, i64_w, i32_w]
    rfl
   refine take_ (i := 21) (N := some 36) (v := ?_) (a' := ?_) #[true, true, true, true, true, true, true, true, true, true, true, true, true, true, true, true, true, true, true, true, true, true, false, false, false, false, false, false, false] rfl rfl (take_ofW HT_.out HW_.out (by kernel_rfl)) (fun _ _ _ h => h) (Or.inl ⟨by rfl, ?_⟩) hHeld ?_ ?_; rotate_left
   ·rintro w' ⟨s0, s1, s2, s3, s4, s5⟩
    go_simp
    with_reducible rfl
   rotate_left
   ·simp only [Act.put, List.setIfInBounds_toArray, List.set_cons_zero, List.set_cons_succ, i64_w, i32_w]
    rfl
   refine pS (i := 22) (N := some 37) #[true, true, true, true, true, true, true, true, true, true, true, true, true, true, true, true, true, true, true, true, true, true, true, false, false, false, false, false, false] rfl rfl HT_.out ?_
   refine pS (i := 23) (N := some 38) #[true, true, true, true, true, true, true, true, true, true, true, true, true, true, true, true, true, true, true, true, true, true, true, true, false, false, false, false, false] rfl rfl HT_.out ?_
   refine pS (i := 24) (N := some 39) #[true, true, true, true, true, true, true, true, true, true, true, true, true, true, true, true, true, true, true, true, true, true, true, true, true, false, false, false, false] rfl rfl HT_.out ?_
   refine take_ (i := 25) (N := some 40) (v := ?_) (a' := ?_) #[true, true, true, true, true, true, true, true, true, true, true, true, true, true, true, true, true, true, true, true, true, true, true, true, true, true, false, false, false] rfl rfl (take_ofW HT_.out HW_.out (by kernel_rfl)) (fun _ _ _ h => h) (Or.inl ⟨by rfl, ?_⟩) hHeld ?_ ?_; rotate_left
   ·rintro w' ⟨s0, s1, s2, s3, s4, s5⟩
    go_simp
    with_reducible rfl
   rotate_left
   ·simp only [Act.put, List.setIfInBounds_toArray, List.set_cons_zero, List.set_cons_succ, i64_w, i32_w]
    rfl
   refine pS (i := 26) (N := some 41) #[true, true, true, true, true, true, true, true, true, true, true, true, true, true, true, true, true, true, true, true, true, true, true, true, true, true, true, false, false] rfl rfl HT_.out ?_
   refine pS (i := 27) (N := some 42) #[true, true, true, true, true, true, true, true, true, true, true, true, true, true, true, true, true, true, true, true, true, true, true, true, true, true, true, true, false] rfl rfl HT_.out ?_
   refine pS (i := 28) (N := some 43) #[true, true, true, true, true, true, true, true, true, true, true, true, true, true, true, true, true, true, true, true, true, true, true, true, true, true, true, true, true] rfl rfl HT_.out ?_
   refine done_ (done_of HT_.out (by kernel_rfl)) ?_
   try go_wp2
   go_meet
   case rel => exact ⟨_, (decide ((rd l0_0 (ji15)) > (rd l1_0 (ji18)))), (by first | rfl | (simp; done) | (simp only [← hji15, ← hji18] <;> (first | rfl | simp)) | (simp [*]; done)), H', ⟨by first | omega | exact Nat.le_refl _⟩, ⟨by exact qB BK286.out⟩, ⟨by exact qB BK287.out⟩, ⟨by repeat (first | (with_reducible first | exact HB.out | apply below_alloc | apply pw_below_drewN | apply below_drew1 | refine below_set ?_ GE286.out | refine below_set ?_ GE287.out) | exact HB.out)⟩⟩
 case rest =>
  clear HC5
  try clear c1
  try clear c2
  try clear p2
  try clear q2
  try clear hx2
  try clear p6
  try clear c12
  try clear c12b0
  try clear c14
  try clear c14b0
  try clear c14b1
  try clear c16
  try clear c16b0
  try clear c17
  try clear c17b0
  try clear c19
  try clear c19b0
  try clear c20
  try clear c20b0
  try clear hx289_0
  try clear hx290_0
  try clear p289
  try clear p290
  try clear q289
  try clear q290
  obtain ⟨kq, x43_4, rfl, HA, HJ4, BK286, BK287, HB⟩ := hcut
  cases kq with
  | zero => exact absurd HA.out (by simp [standbyref55_Delay.j0])
  | succ kj4 =>
   have H := HA.out
   clear HA
   simp only [standbyref55_Delay.j0] at H
   by_cases c23 : x43_4 = true
   ·subst c23
    have H1 : (some (0, 21)) = some (r1, r2) := by rw [if_pos rfl] at H; exact H
    clear H
    have H := H1
    clear H1
    simp only [Option.some.injEq, Prod.mk.injEq] at H
    obtain ⟨rfl, rfl⟩ := H
    go_wp2
    go_ret2
    exact ⟨by first | rfl | (simp [errW_none, errW_some] <;> rfl) | (simp [*, errW_none, errW_some] <;> rfl), by repeat (first | (with_reducible first | exact HB.out | apply below_alloc | apply pw_below_drewN | apply below_drew1 | refine below_set ?_ GE286.out | refine below_set ?_ GE287.out) | exact HB.out)⟩
   ·replace c23 := Bool.eq_false_iff.mpr c23
    subst c23
    have H1 : (standbyref55_Delay.l0 kj4 0 0 l0_0 a0_1 l1_0 a1_1) = some (r1, r2) := by rw [if_neg (show ¬ (false = true) by decide)] at H; exact H
    clear H
    have H := H1
    clear H1
    have H' := Aside0.mk H
    clear H
    go_wp2
    go_loopg [7, 8] kj4 (fun kq v7 v8 w' => ∃ (x7_2 : Int) (x8_2 : Int), v7 = .int .i64 x7_2 ∧ v8 = .int .i64 x8_2 ∧ Aside0 (standbyref55_Delay.l0 kq x7_2 x8_2 l0_0 a0_1 l1_0 a1_1 = some (r1, r2)) ∧ Aside0 (kq ≤ kj4) ∧ Aside0 (w'.heap[gb286]? = some (.cells #[(.slice A0_0 l0_0.length c0_0), .int .i64 a0_1] 24 (0, 0))) ∧ Aside0 (w'.heap[gb287]? = some (.cells #[(.slice A1_0 l1_0.length c1_0), .int .i64 a1_1] 24 (0, 0))) ∧ Aside0 (Below w.heap.size w w'))
    case atStart => exact ⟨(0), (0), (by first | rfl | (simp; done) | (simp [*]; done)), (by first | rfl | (simp; done) | (simp [*]; done)), H', ⟨Nat.le_refl _⟩, ⟨by exact qB BK286.out⟩, ⟨by exact qB BK287.out⟩, ⟨by repeat (first | (with_reducible first | exact HB.out | apply below_alloc | apply pw_below_drewN | apply below_drew1 | refine below_set ?_ GE286.out | refine below_set ?_ GE287.out) | exact HB.out)⟩⟩
    case round =>
     clear H'
     try clear c1
     try clear c2
     try clear p2
     try clear q2
     try clear hx2
     try clear p6
     try clear c12
     try clear c12b0
     try clear c14
     try clear c14b0
     try clear c14b1
     try clear c16
     try clear c16b0
     try clear c17
     try clear c17b0
     try clear c19
     try clear c19b0
     try clear c20
     try clear c20b0
     try clear c23
     try clear hx289_0
     try clear hx290_0
     try clear p2
     try clear p289
     try clear p290
     try clear p6
     try clear q2
     try clear q289
     try clear q290
     obtain ⟨x7_2, x8_2, rfl, rfl, HA, HK2, BK286, BK287, HB⟩ := hrel
     cases gk with
     | zero => exact absurd HA.out (by simp [standbyref55_Delay.l0])
     | succ k2 =>
      have H := HA.out
      clear HA
      simp only [standbyref55_Delay.l0] at H
      obtain ⟨ji24, hji24⟩ : ∃ j_ : Int, (mx (l0_0.length : Int) (l1_0.length : Int)) = j_ := ⟨_, rfl⟩
      replace H : (if x8_2 < (ji24) then ((standbyref55_value.f l0_0 a0_1 x8_2).bind fun t291 => ((standbyref55_reach.f k2 l1_0 a1_1 t291).bind fun t292 => (standbyref55_Delay.l0 k2 (mx x7_2 (wrap64 (t292 - x8_2))) (wrap64 (x8_2 + 1)) l0_0 a0_1 l1_0 a1_1))) else (some (x7_2, 0))) = some (r1, r2) := by first | (rw [hji24] at H; exact H) | (simp only [hji24] at H ⊢; exact H)
      (try (have hji24l : 0 ≤ ji24 := by (rw [← hji24]; unfold mx; (repeat' split) <;> omega)))
      (try (have hji24m : 0 ≤ ji24 := by omega))
      have hji24_ : (if (l0_0.length : Int) < (l1_0.length : Int) then (l1_0.length : Int) else (l0_0.length : Int)) = ji24 := hji24
      have hji24n : (if l0_0.length < l1_0.length then (l1_0.length : Int) else (l0_0.length : Int)) = ji24 := by rw [← hji24]; unfold mx; simp only [Int.ofNat_lt]
      by_cases c25 : x8_2 < (ji24)
      case neg =>
       rw [if_neg c25] at H
       have c25b0 : decide (x8_2 < (ji24)) = false := decide_eq_false c25
       clear c25
       simp only [Option.some.injEq, Prod.mk.injEq] at H
       obtain ⟨rfl, rfl⟩ := H
       have hnb35 := NB286_287.out
       have hnc35 := NB287_286.out
       have hcz36_0 : wr.cell? ⟨gb286, 0, none⟩ = some (.slice A0_0 l0_0.length c0_0) := (blk_cell BK286.out 0).trans rfl
       have hcz36_1 : wr.cell? ⟨gb286, 1, none⟩ = some (.int .i64 a0_1) := (blk_cell BK286.out 1).trans rfl
       have hfz36_0 := blk_frozen BK286.out 0
       have hfz36_1 := blk_frozen BK286.out 1
       have hcz37_0 : wr.cell? ⟨gb287, 0, none⟩ = some (.slice A1_0 l1_0.length c1_0) := (blk_cell BK287.out 0).trans rfl
       have hcz37_1 : wr.cell? ⟨gb287, 1, none⟩ = some (.int .i64 a1_1) := (blk_cell BK287.out 1).trans rfl
       have hfz37_0 := blk_frozen BK287.out 0
       have hfz37_1 := blk_frozen BK287.out 1
       go_wp2
       go_ret2
       exact ⟨by first | rfl | (simp [errW_none, errW_some] <;> rfl) | (simp only [← hji24]; first | rfl | (simp [errW_none, errW_some] <;> rfl)) | (simp [*, errW_none, errW_some] <;> rfl), by repeat (first | (with_reducible first | exact HB.out | apply below_alloc | apply pw_below_drewN | apply below_drew1 | refine below_set ?_ GE286.out | refine below_set ?_ GE287.out) | exact HB.out)⟩
      rw [if_pos c25] at H
      have c25b0 : decide (x8_2 < (ji24)) = true := decide_eq_true c25
      clear c25
      replace H := Option.bind_eq_some_iff.mp H
      obtain ⟨t291, A260, H⟩ := H
      replace H : ((standbyref55_reach.f k2 l1_0 a1_1 t291).bind fun t292 => (standbyref55_Delay.l0 k2 (mx x7_2 (wrap64 (t292 - x8_2))) (wrap64 (x8_2 + 1)) l0_0 a0_1 l1_0 a1_1)) = some (r1, r2) := H
      have A26 := Aside0.mk A260
      clear A260
      replace H := Option.bind_eq_some_iff.mp H
      obtain ⟨t292, A270, H⟩ := H
      replace H : (standbyref55_Delay.l0 k2 (mx x7_2 (wrap64 (t292 - x8_2))) (wrap64 (x8_2 + 1)) l0_0 a0_1 l1_0 a1_1) = some (r1, r2) := H
      have A27 := Aside0.mk A270
      clear A270
      obtain ⟨ji28, hji28⟩ : ∃ j_ : Int, (mx x7_2 (wrap64 (t292 - x8_2))) = j_ := ⟨_, rfl⟩
      replace H : (standbyref55_Delay.l0 k2 ji28 (wrap64 (x8_2 + 1)) l0_0 a0_1 l1_0 a1_1) = some (r1, r2) := by first | (rw [hji28] at H; exact H) | (simp only [hji28] at H ⊢; exact H)
      (try rw [hji28] at A26)
      (try rw [hji28] at A27)
      have hji28_ : (if x7_2 < (wrap64 (t292 - x8_2)) then (wrap64 (t292 - x8_2)) else x7_2) = ji28 := hji28
      have H' := Aside0.mk H
      clear H
      have hnb29 := NB286_287.out
      have hnc29 := NB287_286.out
      have hcz30_0 : wr.cell? ⟨gb286, 0, none⟩ = some (.slice A0_0 l0_0.length c0_0) := (blk_cell BK286.out 0).trans rfl
      have hcz30_1 : wr.cell? ⟨gb286, 1, none⟩ = some (.int .i64 a0_1) := (blk_cell BK286.out 1).trans rfl
      have hfz30_0 := blk_frozen BK286.out 0
      have hfz30_1 := blk_frozen BK286.out 1
      have hcz31_0 : wr.cell? ⟨gb287, 0, none⟩ = some (.slice A1_0 l1_0.length c1_0) := (blk_cell BK287.out 0).trans rfl
      have hcz31_1 : wr.cell? ⟨gb287, 1, none⟩ = some (.int .i64 a1_1) := (blk_cell BK287.out 1).trans rfl
      have hfz31_0 := blk_frozen BK287.out 0
      have hfz31_1 := blk_frozen BK287.out 1
      try go_wp2
      have n0_ := Aside0.mk (blk_drew BK286.out)
      have n1_ := Aside0.mk (blk_drew BK287.out)
      have n2_ := Aside0.mk (below_drew1 HB.out)
      clear BK286 BK287 HB
      have BK286 := n0_
      have BK287 := n1_
      have HB := n2_
      clear n0_ n1_ n2_
      refine start_ (n := 10) (S := fun w' => w'.cell? ⟨gb287, 0, none⟩ = some (.slice A1_0 l1_0.length c1_0) ∧ w'.cell? ⟨gb287, 1, none⟩ = some (.int .i64 a1_1) ∧ w'.cell? ⟨gb286, 0, none⟩ = some (.slice A0_0 l0_0.length c0_0) ∧ w'.cell? ⟨gb286, 1, none⟩ = some (.int .i64 a0_1)) (ds := []) #[false, false, false, false, false, false, false, false, false, false] (by kernel_rfl) rfl rfl ⟨(blk_cell BK287.out 0).trans rfl, (blk_cell BK287.out 1).trans rfl, (blk_cell BK286.out 0).trans rfl, (blk_cell BK286.out 1).trans rfl⟩ (fun hHeld => ?_); refine with_tabW standbyref55_Delay.tab10 standbyref55_Delay.bits10 (fun HT_ HW_ => ?_)
      generalize wr.drew = w32 at BK286 BK287 HB hHeld ⊢
      refine pS (i := 0) (N := some 55) #[true, false, false, false, false, false, false, false, false, false] rfl rfl HT_.out ?_
      refine pS (i := 3) (N := some 58) #[true, false, false, true, false, false, false, false, false, false] rfl rfl HT_.out ?_
      refine pS (i := 6) (N := some 61) #[true, false, false, true, false, false, true, false, false, false] rfl rfl HT_.out ?_
      refine take_ (i := 1) (N := some 56) (v := ?_) (a' := ?_) #[true, true, false, true, false, false, true, false, false, false] rfl rfl (take_ofW HT_.out HW_.out (by kernel_rfl)) (fun _ _ _ h => h) (Or.inl ⟨by rfl, ?_⟩) hHeld ?_ ?_; rotate_left
      ·rintro w' ⟨s0, s1, s2, s3⟩
       go_simp
       with_reducible rfl
      rotate_left
      ·simp only [Act.put, List.setIfInBounds_toArray, List.set_cons_zero, List.set_cons_succ, i64_w, i32_w]
       rfl
      refine take_ (i := 2) (N := some 57) (v := ?_) (a' := ?_) #[true, true, true, true, false, false, true, false, false, false] rfl rfl (take_ofW HT_.out HW_.out (by kernel_rfl)) (fun _ _ _ h => h) (Or.inl ⟨by rfl, ?_⟩) hHeld ?_ ?_; rotate_left
      ·rintro w' ⟨s0, s1, s2, s3⟩
       go_simp
       with_reducible rfl
      rotate_left
      ·simp only [Act.put, List.setIfInBounds_toArray, List.set_cons_zero, List.set_cons_succ, i64_w, i32_w]
       rfl
      refine one_ (i := 4) (N := some 59) #[true, true, true, true, true, false, true, false, false, false] rfl rfl (one_of HT_.out (by kernel_rfl)) (by decide) (fun K hK => ?_)
      refine goes_ Try.func45 (by kernel_rfl) rfl #[.agg #[.slice A0_0 l0_0.length c0_0, .int .i64 a0_1], .int .i64 x8_2] (by rfl) rfl rfl (by (try simp only [List.map_toArray, List.map_cons, List.map_nil]); first | done | rfl | (simp only [List.length_drop, List.length_take]; rfl)) ?_
      with_reducible refine (standbyref55_value.calls _ _ l0_0 a0_1 x8_2 t291 _ ?side1 ?side2 A26.out).mono ?_
      (case side1 => exact qC HR0_0.out HB.out)
      (case side2 => exact HC0_0.out)
      rintro e w33 ⟨rfl, hb⟩
      refine ⟨_, rfl, ?_⟩
      have n0_ := Aside0.mk (blk_below (qB BK286.out) hb)
      have n1_ := Aside0.mk (blk_below (qB BK287.out) hb)
      have n2_ := Aside0.mk (below_step (qW HB.out) hb)
      clear BK286 BK287 HB
      have BK286 := n0_
      have BK287 := n1_
      have HB := n2_
      clear n0_ n1_ n2_
      (try clear hb); (try clear hb2); (try clear hk); (try clear hi)
      refine hK.out _ _ ⟨(blk_cell BK287.out 0).trans rfl, (blk_cell BK287.out 1).trans rfl, (blk_cell BK286.out 0).trans rfl, (blk_cell BK286.out 1).trans rfl⟩ (fun hHeld => ?_); clear hK K
      refine norm_ (a' := ?_) ?_ ?_; rotate_left
      ·show Act.put _ (some 59) _ = _
       simp only [Act.put, List.setIfInBounds_toArray, List.set_cons_zero, List.set_cons_succ, i64_w, i32_w]
       rfl
      refine one_ (i := 5) (N := some 60) #[true, true, true, true, true, true, true, false, false, false] rfl rfl (one_of HT_.out (by kernel_rfl)) (by decide) (fun K hK => ?_)
      refine goes_ Try.func58 (by kernel_rfl) rfl #[.agg #[.slice A1_0 l1_0.length c1_0, .int .i64 a1_1], .int .i64 t291] (by rfl) rfl rfl (by (try simp only [List.map_toArray, List.map_cons, List.map_nil]); first | done | rfl | (simp only [List.length_drop, List.length_take]; rfl)) ?_
      with_reducible refine (standbyref55_reach.calls k2 _ _ l1_0 a1_1 t291 t292 _ ?side1 ?side2 A27.out).mono ?_
      (case side1 => exact qC HR1_0.out HB.out)
      (case side2 => exact HC1_0.out)
      rintro e w34 ⟨rfl, hb⟩
      refine ⟨_, rfl, ?_⟩
      have n0_ := Aside0.mk (blk_below (qB BK286.out) hb)
      have n1_ := Aside0.mk (blk_below (qB BK287.out) hb)
      have n2_ := Aside0.mk (below_step (qW HB.out) hb)
      clear BK286 BK287 HB
      have BK286 := n0_
      have BK287 := n1_
      have HB := n2_
      clear n0_ n1_ n2_
      (try clear hb); (try clear hb2); (try clear hk); (try clear hi)
      refine hK.out _ _ ⟨(blk_cell BK287.out 0).trans rfl, (blk_cell BK287.out 1).trans rfl, (blk_cell BK286.out 0).trans rfl, (blk_cell BK286.out 1).trans rfl⟩ (fun hHeld => ?_); clear hK K
      refine norm_ (a' := ?_) ?_ ?_; rotate_left
      ·show Act.put _ (some 60) _ = _
       simp only [Act.put, List.setIfInBounds_toArray, List.set_cons_zero, List.set_cons_succ, i64_w, i32_w]
       rfl
      refine pS (i := 7) (N := some 62) #[true, true, true, true, true, true, true, true, false, false] rfl rfl HT_.out ?_
      refine pS (i := 8) (N := some 63) #[true, true, true, true, true, true, true, true, true, false] rfl rfl HT_.out ?_
      refine pS (i := 9) (N := some 7) #[true, true, true, true, true, true, true, true, true, true] rfl rfl HT_.out ?_
      refine done_ (done_of HT_.out (by kernel_rfl)) ?_
      try go_wp2
      go_roundg k2
      case measure => have := HJ4.out; have := HK2.out; omega
      case rel => exact ⟨(ji28), (wrap64 (x8_2 + 1)), (by first | rfl | (simp; done) | (simp only [← hji28] <;> (first | rfl | simp)) | (simp [*]; done)), (by first | rfl | (simp; done) | (simp [*]; done)), H', ⟨by have := HJ4.out; have := HK2.out; omega⟩, ⟨by exact qB BK286.out⟩, ⟨by exact qB BK287.out⟩, ⟨by repeat (first | (with_reducible first | exact HB.out | apply below_alloc | apply pw_below_drewN | apply below_drew1 | refine below_set ?_ GE286.out | refine below_set ?_ GE287.out) | exact HB.out)⟩⟩
end Go.Proofs.Ytanlonngekgibaa.Pr

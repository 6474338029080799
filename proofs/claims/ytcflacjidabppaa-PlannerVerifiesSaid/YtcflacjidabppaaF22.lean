-- Written by pp.py, a program of this session, over the translation of the given program; a machine's text: Lean checks it.
import Derived.Test.YtcflacjidabppaaGShort
import Derived.Test.YtcflacjidabppaaF14
import Derived.Test.YtcflacjidabppaaF17
namespace Go.Proofs.Ytcflacjidabppaa.Pr
open Go.RowKit Go.Proofs.YtcflacjidabppaaW.PrintWords Go.Proofs.YtcflacjidabppaaW.PrintLast Go.Proofs.YtcflacjidabppaaW.PrintMore
attribute [local go_sem] max2_int min2_int max_two min_two max_three min_three max_four min_four   -- for this text's walks alone
set_option linter.unusedVariables false
set_option linter.unusedSimpArgs false

/-! ### standbyref56_Verify: function 22 -/
def standbyref56_Verify.j0 : Nat → Bool → List Int → List Int → List Int → List Int → Int → List Int → List Int → List Int → List Int → Int → Option (Int)
 | 0, _, _, _, _, _, _, _, _, _, _, _ => none
 | k + 1, x44, x254000, x254001, x254002, x254003, x254004, x269000, x269001, x269002, x269003, x269004 => if x44 = true then (some 6) else ((standbyref56_Same.f k x254000 x254001 x254002 x254003 x254004 x269000 x269001 x269002 x269003 x269004).bind fun t269 => (if t269 = true then (some 0) else (some 22)))
def standbyref56_Verify.f (k : Nat) (l0_0 : List Int) (l0_1 : List Int) (a0_2 : Int) (a0_3 : Int) (a0_4 : Int) (l1_0 : List Int) (l1_1 : List Int) (l1_2 : List Int) (l1_3 : List Int) (a1_4 : Int) : Option (Int) := (standbyref56_Plan.f k l0_0 l0_1 a0_2 a0_3 a0_4).bind fun bt254 => (if bt254.2.2.2.2.2 = 0 then (if (l1_0.length : Int) = (bt254.1.length : Int) then (if (l1_1.length : Int) = (bt254.1.length : Int) then (if (l1_2.length : Int) = (bt254.1.length : Int) then (standbyref56_Verify.j0 k ((l1_3.length : Int) != (bt254.1.length : Int)) l1_0 l1_1 l1_2 l1_3 a1_4 bt254.1 bt254.2.1 bt254.2.2.1 bt254.2.2.2.1 bt254.2.2.2.2.1) else (standbyref56_Verify.j0 k true l1_0 l1_1 l1_2 l1_3 a1_4 bt254.1 bt254.2.1 bt254.2.2.1 bt254.2.2.2.1 bt254.2.2.2.2.1)) else (standbyref56_Verify.j0 k true l1_0 l1_1 l1_2 l1_3 a1_4 bt254.1 bt254.2.1 bt254.2.2.1 bt254.2.2.2.1 bt254.2.2.2.2.1)) else (standbyref56_Verify.j0 k true l1_0 l1_1 l1_2 l1_3 a1_4 bt254.1 bt254.2.1 bt254.2.2.1 bt254.2.2.2.1 bt254.2.2.2.2.1)) else (some bt254.2.2.2.2.2))
theorem standbyref56_Verify.mono_l : ∀ k, (∀ y0 y1 y2 y3 y4 y5 y6 y7 y8 y9 y10, LeO (standbyref56_Verify.j0 k y0 y1 y2 y3 y4 y5 y6 y7 y8 y9 y10) (standbyref56_Verify.j0 (k + 1) y0 y1 y2 y3 y4 y5 y6 y7 y8 y9 y10))
 | 0 => fun _ _ _ _ _ _ _ _ _ _ _ r h => by simp [standbyref56_Verify.j0] at h
 | k + 1 => by
  have ih0 := standbyref56_Verify.mono_l k
  ·intro y0 y1 y2 y3 y4 y5 y6 y7 y8 y9 y10
   unfold standbyref56_Verify.j0
   repeat' first
   | (with_reducible exact ih0 _ _ _ _ _ _ _ _ _ _ _)
   | (with_reducible exact standbyref56_Plan.mono _ _ _ _ _ _)
   | (with_reducible exact standbyref56_Same.mono _ _ _ _ _ _ _ _ _ _ _)
   | (with_reducible exact LeO.refl _)
   | (with_reducible exact LeO.none _)
   | (with_reducible refine LeO.ite ?_ ?_)
   | (with_reducible refine LeO.bind ?_ (fun _ => ?_))
   | exact ih0 _ _ _ _ _ _ _ _ _ _ _
   | exact standbyref56_Plan.mono _ _ _ _ _ _
   | exact standbyref56_Same.mono _ _ _ _ _ _ _ _ _ _ _
   | exact LeO.none _
   | refine LeO.ite ?_ ?_
   | refine LeO.bind ?_ (fun _ => ?_)
theorem standbyref56_Verify.mono : ∀ a0 a1 a2 a3 a4 a5 a6 a7 a8 a9 k, LeO (standbyref56_Verify.f k a0 a1 a2 a3 a4 a5 a6 a7 a8 a9) (standbyref56_Verify.f (k + 1) a0 a1 a2 a3 a4 a5 a6 a7 a8 a9) := by
 intro a0 a1 a2 a3 a4 a5 a6 a7 a8 a9 k
 have ih0 := standbyref56_Verify.mono_l k
 unfold standbyref56_Verify.f
 repeat' first
   | (with_reducible exact ih0 _ _ _ _ _ _ _ _ _ _ _)
   | (with_reducible exact standbyref56_Plan.mono _ _ _ _ _ _)
   | (with_reducible exact standbyref56_Same.mono _ _ _ _ _ _ _ _ _ _ _)
   | (with_reducible exact LeO.refl _)
   | (with_reducible exact LeO.none _)
   | (with_reducible refine LeO.ite ?_ ?_)
   | (with_reducible refine LeO.bind ?_ (fun _ => ?_))
   | exact ih0 _ _ _ _ _ _ _ _ _ _ _
   | exact standbyref56_Plan.mono _ _ _ _ _ _
   | exact standbyref56_Same.mono _ _ _ _ _ _ _ _ _ _ _
   | exact LeO.none _
   | refine LeO.ite ?_ ?_
   | refine LeO.bind ?_ (fun _ => ?_)
set_option maxHeartbeats 8000000 in
set_option maxRecDepth 100000 in
theorem standbyref56_Verify.calls (k : Nat) (A0_0 : Option Addr) (c0_0 : Nat) (l0_0 : List Int) (A0_1 : Option Addr) (c0_1 : Nat) (l0_1 : List Int) (a0_2 : Int) (a0_3 : Int) (a0_4 : Int) (A1_0 : Option Addr) (c1_0 : Nat) (l1_0 : List Int) (A1_1 : Option Addr) (c1_1 : Nat) (l1_1 : List Int) (A1_2 : Option Addr) (c1_2 : Nat) (l1_2 : List Int) (A1_3 : Option Addr) (c1_3 : Nat) (l1_3 : List Int) (a1_4 : Int) (r : Int) (w : World) (hr0_0 : Kd.C (Kd.int .i64) w A0_0 l0_0.length l0_0) (hc0_0 : l0_0.length ≤ c0_0) (hr0_1 : Kd.C (Kd.int .i64) w A0_1 l0_1.length l0_1) (hc0_1 : l0_1.length ≤ c0_1) (hr1_0 : Kd.C (Kd.int .i64) w A1_0 l1_0.length l1_0) (hc1_0 : l1_0.length ≤ c1_0) (hr1_1 : Kd.C (Kd.int .i64) w A1_1 l1_1.length l1_1) (hc1_1 : l1_1.length ≤ c1_1) (hr1_2 : Kd.C (Kd.int .i64) w A1_2 l1_2.length l1_2) (hc1_2 : l1_2.length ≤ c1_2) (hr1_3 : Kd.C (Kd.int .i64) w A1_3 l1_3.length l1_3) (hc1_3 : l1_3.length ≤ c1_3) (h : standbyref56_Verify.f k l0_0 l0_1 a0_2 a0_3 a0_4 l1_0 l1_1 l1_2 l1_3 a1_4 = some r) :
  Calls Try.prog 22 #[.agg #[.slice A0_0 l0_0.length c0_0, .slice A0_1 l0_1.length c0_1, .int .i64 a0_2, .int .i64 a0_3, .int .i64 a0_4], .agg #[.slice A1_0 l1_0.length c1_0, .slice A1_1 l1_1.length c1_1, .slice A1_2 l1_2.length c1_2, .slice A1_3 l1_3.length c1_3, .int .i64 a1_4]] w fun e w' => e = .returned (.int .i64 r) ∧ Below w.heap.size w w' := by
 have hu24 := Try.underlying24
 have hu28 := Try.underlying28
 have HR0_0 := Aside0.mk hr0_0
 have HC0_0 := Aside0.mk hc0_0
 clear hr0_0 hc0_0
 have HR0_1 := Aside0.mk hr0_1
 have HC0_1 := Aside0.mk hc0_1
 clear hr0_1 hc0_1
 have HR1_0 := Aside0.mk hr1_0
 have HC1_0 := Aside0.mk hc1_0
 clear hr1_0 hc1_0
 have HR1_1 := Aside0.mk hr1_1
 have HC1_1 := Aside0.mk hc1_1
 clear hr1_1 hc1_1
 have HR1_2 := Aside0.mk hr1_2
 have HC1_2 := Aside0.mk hc1_2
 clear hr1_2 hc1_2
 have HR1_3 := Aside0.mk hr1_3
 have HC1_3 := Aside0.mk hc1_3
 clear hr1_3 hc1_3
 have HB := Aside0.mk (Below.refl w.heap.size w)
 have H : ((standbyref56_Plan.f k l0_0 l0_1 a0_2 a0_3 a0_4).bind fun bt254 => (if bt254.2.2.2.2.2 = 0 then (if (l1_0.length : Int) = (bt254.1.length : Int) then (if (l1_1.length : Int) = (bt254.1.length : Int) then (if (l1_2.length : Int) = (bt254.1.length : Int) then (standbyref56_Verify.j0 k ((l1_3.length : Int) != (bt254.1.length : Int)) l1_0 l1_1 l1_2 l1_3 a1_4 bt254.1 bt254.2.1 bt254.2.2.1 bt254.2.2.2.1 bt254.2.2.2.2.1) else (standbyref56_Verify.j0 k true l1_0 l1_1 l1_2 l1_3 a1_4 bt254.1 bt254.2.1 bt254.2.2.1 bt254.2.2.2.1 bt254.2.2.2.2.1)) else (standbyref56_Verify.j0 k true l1_0 l1_1 l1_2 l1_3 a1_4 bt254.1 bt254.2.1 bt254.2.2.1 bt254.2.2.2.1 bt254.2.2.2.2.1)) else (standbyref56_Verify.j0 k true l1_0 l1_1 l1_2 l1_3 a1_4 bt254.1 bt254.2.1 bt254.2.2.1 bt254.2.2.2.1 bt254.2.2.2.2.1)) else (some bt254.2.2.2.2.2))) = some r := h
 clear h
 replace H := Option.bind_eq_some_iff.mp H
 obtain ⟨⟨t254, t257, t260, t263, t266, t267⟩, A30, H⟩ := H
 replace H : (if t267 = 0 then (if (l1_0.length : Int) = (t254.length : Int) then (if (l1_1.length : Int) = (t254.length : Int) then (if (l1_2.length : Int) = (t254.length : Int) then (standbyref56_Verify.j0 k ((l1_3.length : Int) != (t254.length : Int)) l1_0 l1_1 l1_2 l1_3 a1_4 t254 t257 t260 t263 t266) else (standbyref56_Verify.j0 k true l1_0 l1_1 l1_2 l1_3 a1_4 t254 t257 t260 t263 t266)) else (standbyref56_Verify.j0 k true l1_0 l1_1 l1_2 l1_3 a1_4 t254 t257 t260 t263 t266)) else (standbyref56_Verify.j0 k true l1_0 l1_1 l1_2 l1_3 a1_4 t254 t257 t260 t263 t266)) else (some t267)) = some r := H
 have A3 := Aside0.mk A30
 clear A30
 by_cases c4 : t267 = 0
 case neg =>
  rw [if_neg c4] at H
  have c4b0 : (t267 == 0) = false := beq_eq_false_iff_ne.mpr c4
  have c4b1 : (t267 != 0) = true := bne_iff_ne.mpr c4
  obtain rfl := Option.some.inj H
  go_enter Try.func22, Try.ntmps22
  go_wp2_with (first | ((with_reducible refine gate_dst (N := 2) rfl ?_); (try (refine gate_guard (by rfl) ?_; dsimp only)); refine box_event ?hg (N := 2) ?hd (cs := #[.slice A0_0 l0_0.length c0_0, .slice A0_1 l0_1.length c0_1, .int .i64 a0_2, .int .i64 a0_3, .int .i64 a0_4]) (t := 24) ?hr ?_; (case hd => rfl); (case hg => rfl); (case hr => first | (go_simp; done) | (go_simp; rfl)); intro gb252 hg w49 hbox hb; have n0_ := Aside0.mk (below_step (qW HB.out) hb); have n1_ := Aside0.mk (hbox); have n2_ := Aside0.mk ((by rw [hg]; exact (below_size (qW HB.out)) : w.heap.size ≤ gb252)); have n3_ := Aside0.mk ((by rw [hg]; exact (below_size (qW HB.out)) : w.heap.size ≤ gb252)); clear HB; have HB := n0_; have BK252 := n1_; have GW252 := n2_; have GE252 := n3_; clear n0_ n1_ n2_ n3_ hb hbox hg) | ((with_reducible refine gate_dst (N := 3) rfl ?_); (try (refine gate_guard (by rfl) ?_; dsimp only)); refine box_event ?hg (N := 3) ?hd (cs := #[.slice A1_0 l1_0.length c1_0, .slice A1_1 l1_1.length c1_1, .slice A1_2 l1_2.length c1_2, .slice A1_3 l1_3.length c1_3, .int .i64 a1_4]) (t := 28) ?hr ?_; (case hd => rfl); (case hg => rfl); (case hr => first | (go_simp; done) | (go_simp; rfl)); intro gb253 hg w50 hbox hb; have n0_ := Aside0.mk (blk_below (qB BK252.out) hb); have n1_ := Aside0.mk (below_step (qW HB.out) hb); have n2_ := Aside0.mk (hbox); have n3_ := Aside0.mk ((by rw [hg]; exact (below_size (qW HB.out)) : w.heap.size ≤ gb253)); have n4_ := Aside0.mk ((by rw [hg]; exact (below_size (qW HB.out)) : w.heap.size ≤ gb253)); have n5_ := Aside0.mk ((by rw [hg]; exact Nat.ne_of_lt (blk_lt (qB BK252.out)) : gb252 ≠ gb253)); have n6_ := Aside0.mk ((by rw [hg]; exact Nat.ne_of_gt (blk_lt (qB BK252.out)) : gb253 ≠ gb252)); clear BK252 HB; have BK252 := n0_; have HB := n1_; have BK253 := n2_; have GW253 := n3_; have GE253 := n4_; have NB252_253 := n5_; have NB253_252 := n6_; clear n0_ n1_ n2_ n3_ n4_ n5_ n6_ hb hbox hg; have hnb51 := NB252_253.out; have hnc51 := NB253_252.out; have hcz52_0 : w50.cell? ⟨gb252, 0, none⟩ = some (.slice A0_0 l0_0.length c0_0) := (blk_cell BK252.out 0).trans rfl; have hcz52_1 : w50.cell? ⟨gb252, 1, none⟩ = some (.slice A0_1 l0_1.length c0_1) := (blk_cell BK252.out 1).trans rfl; have hcz52_2 : w50.cell? ⟨gb252, 2, none⟩ = some (.int .i64 a0_2) := (blk_cell BK252.out 2).trans rfl; have hcz52_3 : w50.cell? ⟨gb252, 3, none⟩ = some (.int .i64 a0_3) := (blk_cell BK252.out 3).trans rfl; have hcz52_4 : w50.cell? ⟨gb252, 4, none⟩ = some (.int .i64 a0_4) := (blk_cell BK252.out 4).trans rfl; have hfz52_0 := blk_frozen BK252.out 0; have hfz52_1 := blk_frozen BK252.out 1; have hfz52_2 := blk_frozen BK252.out 2; have hfz52_3 := blk_frozen BK252.out 3; have hfz52_4 := blk_frozen BK252.out 4) | ((with_reducible refine gate_callee (f := 14) rfl ?_); refine goesL_ (some 10) rfl rfl Try.func14 (by kernel_rfl) rfl #[.agg #[.slice A0_0 l0_0.length c0_0, .slice A0_1 l0_1.length c0_1, .int .i64 a0_2, .int .i64 a0_3, .int .i64 a0_4]] rfl (by (try simp only [List.map_toArray, List.map_cons, List.map_nil]); first | done | rfl | (simp only [List.length_drop, List.length_take]; rfl)) ?_; (with_reducible refine (standbyref56_Plan.calls k _ _ l0_0 _ _ l0_1 a0_2 a0_3 a0_4 t254 t257 t260 t263 t266 t267 _ ?side1 ?side2 ?side3 ?side4 A3.out).mono ?_); (case side1 => exact qC HR0_0.out HB.out); (case side2 => exact HC0_0.out); (case side3 => exact qC HR0_1.out HB.out); (case side4 => exact HC0_1.out); rintro e w53 ⟨v255, v258, v261, v264, rfl, ho0, ho1, ho2, ho3, hb⟩; refine ⟨_, rfl, ?_⟩; have n0_ := Aside0.mk (Kd.R_lower ho0 (below_size (qW HB.out))); have n1_ := Aside0.mk (Kd.R_lower ho1 (below_size (qW HB.out))); have n2_ := Aside0.mk (Kd.R_lower ho2 (below_size (qW HB.out))); have n3_ := Aside0.mk (Kd.R_lower ho3 (below_size (qW HB.out))); have n4_ := Aside0.mk (blk_below (qB BK252.out) hb); have n5_ := Aside0.mk (blk_below (qB BK253.out) hb); have n6_ := Aside0.mk (below_step (qW HB.out) hb); clear BK252 BK253 HB; have HO256 := n0_; have HO259 := n1_; have HO262 := n2_; have HO265 := n3_; have BK252 := n4_; have BK253 := n5_; have HB := n6_; clear n0_ n1_ n2_ n3_ n4_ n5_ n6_; (try clear hb); (try clear hb2); (try clear hk); (try clear hi); (try clear ho0); (try clear ho1); (try clear ho2); (try clear ho3)) | ((with_reducible refine gate_dst (N := 5) rfl ?_); (try (refine gate_guard (by rfl) ?_; dsimp only)); refine box_event ?hg (N := 5) ?hd (cs := #[.slice none 0 0, .slice none 0 0, .slice none 0 0, .slice none 0 0, .int .i64 0]) (t := 28) ?hr ?_; (case hd => rfl); (case hg => rfl); (case hr => first | (go_simp; done) | (go_simp; rfl)); intro gb268 hg w54 hbox hb; have n0_ := Aside0.mk (Kd.R_below (qR HO256.out) hb); have n1_ := Aside0.mk (Kd.R_below (qR HO259.out) hb); have n2_ := Aside0.mk (Kd.R_below (qR HO262.out) hb); have n3_ := Aside0.mk (Kd.R_below (qR HO265.out) hb); have n4_ := Aside0.mk (blk_below (qB BK252.out) hb); have n5_ := Aside0.mk (blk_below (qB BK253.out) hb); have n6_ := Aside0.mk (below_step (qW HB.out) hb); have n7_ := Aside0.mk (hbox); have n8_ := Aside0.mk ((by rw [hg]; exact (below_size (qW HB.out)) : w.heap.size ≤ gb268)); have n9_ := Aside0.mk ((by rw [hg]; exact (below_size (qW HB.out)) : w.heap.size ≤ gb268)); have n10_ := Aside0.mk ((by rw [hg]; exact Nat.ne_of_lt (blk_lt (qB BK252.out)) : gb252 ≠ gb268)); have n11_ := Aside0.mk ((by rw [hg]; exact Nat.ne_of_gt (blk_lt (qB BK252.out)) : gb268 ≠ gb252)); have n12_ := Aside0.mk ((by rw [hg]; exact Nat.ne_of_lt (blk_lt (qB BK253.out)) : gb253 ≠ gb268)); have n13_ := Aside0.mk ((by rw [hg]; exact Nat.ne_of_gt (blk_lt (qB BK253.out)) : gb268 ≠ gb253)); clear HO256 HO259 HO262 HO265 BK252 BK253 HB; have HO256 := n0_; have HO259 := n1_; have HO262 := n2_; have HO265 := n3_; have BK252 := n4_; have BK253 := n5_; have HB := n6_; have BK268 := n7_; have GW268 := n8_; have GE268 := n9_; have NB252_268 := n10_; have NB268_252 := n11_; have NB253_268 := n12_; have NB268_253 := n13_; clear n0_ n1_ n2_ n3_ n4_ n5_ n6_ n7_ n8_ n9_ n10_ n11_ n12_ n13_ hb hbox hg; obtain ⟨Ao55, co55, eo55⟩ := Kd.R_slice HO256.out; subst eo55; have hnb56 := NB268_252.out; have hnc56 := NB252_268.out; have hnb57 := NB268_253.out; have hnc57 := NB253_268.out; have hcz58_0 : w54.cell? ⟨gb268, 0, none⟩ = some (.slice none 0 0) := (blk_cell BK268.out 0).trans rfl; have hcz58_1 : w54.cell? ⟨gb268, 1, none⟩ = some (.slice none 0 0) := (blk_cell BK268.out 1).trans rfl; have hcz58_2 : w54.cell? ⟨gb268, 2, none⟩ = some (.slice none 0 0) := (blk_cell BK268.out 2).trans rfl; have hcz58_3 : w54.cell? ⟨gb268, 3, none⟩ = some (.slice none 0 0) := (blk_cell BK268.out 3).trans rfl; have hcz58_4 : w54.cell? ⟨gb268, 4, none⟩ = some (.int .i64 0) := (blk_cell BK268.out 4).trans rfl; have hfz58_0 := blk_frozen BK268.out 0; have hfz58_1 := blk_frozen BK268.out 1; have hfz58_2 := blk_frozen BK268.out 2; have hfz58_3 := blk_frozen BK268.out 3; have hfz58_4 := blk_frozen BK268.out 4; obtain ⟨Ao59, co59, eo59⟩ := Kd.R_slice HO259.out; subst eo59; obtain ⟨Ao60, co60, eo60⟩ := Kd.R_slice HO262.out; subst eo60; obtain ⟨Ao61, co61, eo61⟩ := Kd.R_slice HO265.out; subst eo61))
  go_ret
  exact ⟨by first | rfl | (simp [errW_none, errW_some] <;> rfl) | (simp [*, errW_none, errW_some] <;> rfl), by repeat (first | (with_reducible first | exact HB.out | apply below_alloc | apply pw_below_drewN | apply below_drew1 | refine below_set ?_ GE252.out | refine below_set ?_ GE253.out | refine below_set ?_ GE268.out) | exact HB.out)⟩

 rw [if_pos c4] at H
 have c4b0 : (t267 == 0) = true := beq_iff_eq.mpr c4
 have c4b1 : (t267 != 0) = false := bne_eq_false_iff_eq.mpr c4
 clear c4
 have HC5 := Aside0.mk H
 clear H
 go_enter Try.func22, Try.ntmps22
 go_upto_region 5 with (first | ((with_reducible refine gate_dst (N := 2) rfl ?_); (try (refine gate_guard (by rfl) ?_; dsimp only)); refine box_event ?hg (N := 2) ?hd (cs := #[.slice A0_0 l0_0.length c0_0, .slice A0_1 l0_1.length c0_1, .int .i64 a0_2, .int .i64 a0_3, .int .i64 a0_4]) (t := 24) ?hr ?_; (case hd => rfl); (case hg => rfl); (case hr => first | (go_simp; done) | (go_simp; rfl)); intro gb252 hg w6 hbox hb; have n0_ := Aside0.mk (below_step (qW HB.out) hb); have n1_ := Aside0.mk (hbox); have n2_ := Aside0.mk ((by rw [hg]; exact (below_size (qW HB.out)) : w.heap.size ≤ gb252)); have n3_ := Aside0.mk ((by rw [hg]; exact (below_size (qW HB.out)) : w.heap.size ≤ gb252)); clear HB; have HB := n0_; have BK252 := n1_; have GW252 := n2_; have GE252 := n3_; clear n0_ n1_ n2_ n3_ hb hbox hg) | ((with_reducible refine gate_dst (N := 3) rfl ?_); (try (refine gate_guard (by rfl) ?_; dsimp only)); refine box_event ?hg (N := 3) ?hd (cs := #[.slice A1_0 l1_0.length c1_0, .slice A1_1 l1_1.length c1_1, .slice A1_2 l1_2.length c1_2, .slice A1_3 l1_3.length c1_3, .int .i64 a1_4]) (t := 28) ?hr ?_; (case hd => rfl); (case hg => rfl); (case hr => first | (go_simp; done) | (go_simp; rfl)); intro gb253 hg w7 hbox hb; have n0_ := Aside0.mk (blk_below (qB BK252.out) hb); have n1_ := Aside0.mk (below_step (qW HB.out) hb); have n2_ := Aside0.mk (hbox); have n3_ := Aside0.mk ((by rw [hg]; exact (below_size (qW HB.out)) : w.heap.size ≤ gb253)); have n4_ := Aside0.mk ((by rw [hg]; exact (below_size (qW HB.out)) : w.heap.size ≤ gb253)); have n5_ := Aside0.mk ((by rw [hg]; exact Nat.ne_of_lt (blk_lt (qB BK252.out)) : gb252 ≠ gb253)); have n6_ := Aside0.mk ((by rw [hg]; exact Nat.ne_of_gt (blk_lt (qB BK252.out)) : gb253 ≠ gb252)); clear BK252 HB; have BK252 := n0_; have HB := n1_; have BK253 := n2_; have GW253 := n3_; have GE253 := n4_; have NB252_253 := n5_; have NB253_252 := n6_; clear n0_ n1_ n2_ n3_ n4_ n5_ n6_ hb hbox hg; have hnb8 := NB252_253.out; have hnc8 := NB253_252.out; have hcz9_0 : w7.cell? ⟨gb252, 0, none⟩ = some (.slice A0_0 l0_0.length c0_0) := (blk_cell BK252.out 0).trans rfl; have hcz9_1 : w7.cell? ⟨gb252, 1, none⟩ = some (.slice A0_1 l0_1.length c0_1) := (blk_cell BK252.out 1).trans rfl; have hcz9_2 : w7.cell? ⟨gb252, 2, none⟩ = some (.int .i64 a0_2) := (blk_cell BK252.out 2).trans rfl; have hcz9_3 : w7.cell? ⟨gb252, 3, none⟩ = some (.int .i64 a0_3) := (blk_cell BK252.out 3).trans rfl; have hcz9_4 : w7.cell? ⟨gb252, 4, none⟩ = some (.int .i64 a0_4) := (blk_cell BK252.out 4).trans rfl; have hfz9_0 := blk_frozen BK252.out 0; have hfz9_1 := blk_frozen BK252.out 1; have hfz9_2 := blk_frozen BK252.out 2; have hfz9_3 := blk_frozen BK252.out 3; have hfz9_4 := blk_frozen BK252.out 4) | ((with_reducible refine gate_callee (f := 14) rfl ?_); refine goesL_ (some 10) rfl rfl Try.func14 (by kernel_rfl) rfl #[.agg #[.slice A0_0 l0_0.length c0_0, .slice A0_1 l0_1.length c0_1, .int .i64 a0_2, .int .i64 a0_3, .int .i64 a0_4]] rfl (by (try simp only [List.map_toArray, List.map_cons, List.map_nil]); first | done | rfl | (simp only [List.length_drop, List.length_take]; rfl)) ?_; (with_reducible refine (standbyref56_Plan.calls k _ _ l0_0 _ _ l0_1 a0_2 a0_3 a0_4 t254 t257 t260 t263 t266 t267 _ ?side1 ?side2 ?side3 ?side4 A3.out).mono ?_); (case side1 => exact qC HR0_0.out HB.out); (case side2 => exact HC0_0.out); (case side3 => exact qC HR0_1.out HB.out); (case side4 => exact HC0_1.out); rintro e w10 ⟨v255, v258, v261, v264, rfl, ho0, ho1, ho2, ho3, hb⟩; refine ⟨_, rfl, ?_⟩; have n0_ := Aside0.mk (Kd.R_lower ho0 (below_size (qW HB.out))); have n1_ := Aside0.mk (Kd.R_lower ho1 (below_size (qW HB.out))); have n2_ := Aside0.mk (Kd.R_lower ho2 (below_size (qW HB.out))); have n3_ := Aside0.mk (Kd.R_lower ho3 (below_size (qW HB.out))); have n4_ := Aside0.mk (blk_below (qB BK252.out) hb); have n5_ := Aside0.mk (blk_below (qB BK253.out) hb); have n6_ := Aside0.mk (below_step (qW HB.out) hb); clear BK252 BK253 HB; have HO256 := n0_; have HO259 := n1_; have HO262 := n2_; have HO265 := n3_; have BK252 := n4_; have BK253 := n5_; have HB := n6_; clear n0_ n1_ n2_ n3_ n4_ n5_ n6_; (try clear hb); (try clear hb2); (try clear hk); (try clear hi); (try clear ho0); (try clear ho1); (try clear ho2); (try clear ho3)) | ((with_reducible refine gate_dst (N := 5) rfl ?_); (try (refine gate_guard (by rfl) ?_; dsimp only)); refine box_event ?hg (N := 5) ?hd (cs := #[.slice none 0 0, .slice none 0 0, .slice none 0 0, .slice none 0 0, .int .i64 0]) (t := 28) ?hr ?_; (case hd => rfl); (case hg => rfl); (case hr => first | (go_simp; done) | (go_simp; rfl)); intro gb268 hg w11 hbox hb; have n0_ := Aside0.mk (Kd.R_below (qR HO256.out) hb); have n1_ := Aside0.mk (Kd.R_below (qR HO259.out) hb); have n2_ := Aside0.mk (Kd.R_below (qR HO262.out) hb); have n3_ := Aside0.mk (Kd.R_below (qR HO265.out) hb); have n4_ := Aside0.mk (blk_below (qB BK252.out) hb); have n5_ := Aside0.mk (blk_below (qB BK253.out) hb); have n6_ := Aside0.mk (below_step (qW HB.out) hb); have n7_ := Aside0.mk (hbox); have n8_ := Aside0.mk ((by rw [hg]; exact (below_size (qW HB.out)) : w.heap.size ≤ gb268)); have n9_ := Aside0.mk ((by rw [hg]; exact (below_size (qW HB.out)) : w.heap.size ≤ gb268)); have n10_ := Aside0.mk ((by rw [hg]; exact Nat.ne_of_lt (blk_lt (qB BK252.out)) : gb252 ≠ gb268)); have n11_ := Aside0.mk ((by rw [hg]; exact Nat.ne_of_gt (blk_lt (qB BK252.out)) : gb268 ≠ gb252)); have n12_ := Aside0.mk ((by rw [hg]; exact Nat.ne_of_lt (blk_lt (qB BK253.out)) : gb253 ≠ gb268)); have n13_ := Aside0.mk ((by rw [hg]; exact Nat.ne_of_gt (blk_lt (qB BK253.out)) : gb268 ≠ gb253)); clear HO256 HO259 HO262 HO265 BK252 BK253 HB; have HO256 := n0_; have HO259 := n1_; have HO262 := n2_; have HO265 := n3_; have BK252 := n4_; have BK253 := n5_; have HB := n6_; have BK268 := n7_; have GW268 := n8_; have GE268 := n9_; have NB252_268 := n10_; have NB268_252 := n11_; have NB253_268 := n12_; have NB268_253 := n13_; clear n0_ n1_ n2_ n3_ n4_ n5_ n6_ n7_ n8_ n9_ n10_ n11_ n12_ n13_ hb hbox hg; obtain ⟨Ao12, co12, eo12⟩ := Kd.R_slice HO256.out; subst eo12; have hnb13 := NB268_252.out; have hnc13 := NB252_268.out; have hnb14 := NB268_253.out; have hnc14 := NB253_268.out; have hcz15_0 : w11.cell? ⟨gb268, 0, none⟩ = some (.slice none 0 0) := (blk_cell BK268.out 0).trans rfl; have hcz15_1 : w11.cell? ⟨gb268, 1, none⟩ = some (.slice none 0 0) := (blk_cell BK268.out 1).trans rfl; have hcz15_2 : w11.cell? ⟨gb268, 2, none⟩ = some (.slice none 0 0) := (blk_cell BK268.out 2).trans rfl; have hcz15_3 : w11.cell? ⟨gb268, 3, none⟩ = some (.slice none 0 0) := (blk_cell BK268.out 3).trans rfl; have hcz15_4 : w11.cell? ⟨gb268, 4, none⟩ = some (.int .i64 0) := (blk_cell BK268.out 4).trans rfl; have hfz15_0 := blk_frozen BK268.out 0; have hfz15_1 := blk_frozen BK268.out 1; have hfz15_2 := blk_frozen BK268.out 2; have hfz15_3 := blk_frozen BK268.out 3; have hfz15_4 := blk_frozen BK268.out 4; obtain ⟨Ao16, co16, eo16⟩ := Kd.R_slice HO259.out; subst eo16; obtain ⟨Ao17, co17, eo17⟩ := Kd.R_slice HO262.out; subst eo17; obtain ⟨Ao18, co18, eo18⟩ := Kd.R_slice HO265.out; subst eo18))
 (try simp only [Act.put, List.setIfInBounds_toArray, List.set_cons_zero, List.set_cons_succ])
 go_cut [44] (fun v44 wc => ∃ (kq : Nat) (x44_4 : Bool), v44 = .bool x44_4 ∧ Aside0 (standbyref56_Verify.j0 kq x44_4 l1_0 l1_1 l1_2 l1_3 a1_4 t254 t257 t260 t263 t266 = some r) ∧ Aside0 (kq ≤ k) ∧ Aside0 (Kd.R (Kd.int .i64) 3 wc w.heap.size (fun k_ => some k_ ≠ ((.slice Ao16 t257.length co16) : Value).ownBlock ∧ some k_ ≠ ((.slice Ao17 t260.length co17) : Value).ownBlock ∧ some k_ ≠ ((.slice Ao18 t263.length co18) : Value).ownBlock) (.slice Ao12 t254.length co12) t254) ∧ Aside0 (Kd.R (Kd.int .i64) 3 wc w.heap.size (fun k_ => some k_ ≠ ((.slice Ao12 t254.length co12) : Value).ownBlock ∧ some k_ ≠ ((.slice Ao17 t260.length co17) : Value).ownBlock ∧ some k_ ≠ ((.slice Ao18 t263.length co18) : Value).ownBlock) (.slice Ao16 t257.length co16) t257) ∧ Aside0 (Kd.R (Kd.int .i64) 3 wc w.heap.size (fun k_ => some k_ ≠ ((.slice Ao12 t254.length co12) : Value).ownBlock ∧ some k_ ≠ ((.slice Ao16 t257.length co16) : Value).ownBlock ∧ some k_ ≠ ((.slice Ao18 t263.length co18) : Value).ownBlock) (.slice Ao17 t260.length co17) t260) ∧ Aside0 (Kd.R (Kd.int .i64) 3 wc w.heap.size (fun k_ => some k_ ≠ ((.slice Ao12 t254.length co12) : Value).ownBlock ∧ some k_ ≠ ((.slice Ao16 t257.length co16) : Value).ownBlock ∧ some k_ ≠ ((.slice Ao17 t260.length co17) : Value).ownBlock) (.slice Ao18 t263.length co18) t263) ∧ Aside0 (wc.heap[gb252]? = some (.cells #[(.slice A0_0 l0_0.length c0_0), (.slice A0_1 l0_1.length c0_1), .int .i64 a0_2, .int .i64 a0_3, .int .i64 a0_4] 24 (0, 0))) ∧ Aside0 (wc.heap[gb253]? = some (.cells #[(.slice A1_0 l1_0.length c1_0), (.slice A1_1 l1_1.length c1_1), (.slice A1_2 l1_2.length c1_2), (.slice A1_3 l1_3.length c1_3), .int .i64 a1_4] 28 (0, 0))) ∧ Aside0 (wc.heap[gb268]? = some (.cells #[(.slice Ao12 t254.length co12), (.slice Ao16 t257.length co16), (.slice Ao17 t260.length co17), (.slice Ao18 t263.length co18), .int .i64 t266] 28 (0, 0))) ∧ Aside0 (Below w.heap.size w wc))
 case first =>
  have H := HC5.out
  clear HC5
  by_cases c19 : (l1_0.length : Int) = (t254.length : Int)
  case neg =>
   rw [if_neg c19] at H
   have c19b0 : ((l1_0.length : Int) == (t254.length : Int)) = false := beq_eq_false_iff_ne.mpr c19
   have c19b1 : ((l1_0.length : Int) != (t254.length : Int)) = true := bne_iff_ne.mpr c19
   have c19b2 : (l1_0.length == t254.length) = false := by first | simpa using c19 | (simp at c19 ⊢; omega)
   (first | rw [c19b0] | (simp only [i64_w, i32_w]; rw [c19b0]) | skip)
   have H' := Aside0.mk H
   clear H
   have hnb31 := NB253_252.out
   have hnc31 := NB252_253.out
   have hnb32 := NB253_268.out
   have hnc32 := NB268_253.out
   have hcz33_0 : w11.cell? ⟨gb253, 0, none⟩ = some (.slice A1_0 l1_0.length c1_0) := (blk_cell BK253.out 0).trans rfl
   have hcz33_1 : w11.cell? ⟨gb253, 1, none⟩ = some (.slice A1_1 l1_1.length c1_1) := (blk_cell BK253.out 1).trans rfl
   have hcz33_2 : w11.cell? ⟨gb253, 2, none⟩ = some (.slice A1_2 l1_2.length c1_2) := (blk_cell BK253.out 2).trans rfl
   have hcz33_3 : w11.cell? ⟨gb253, 3, none⟩ = some (.slice A1_3 l1_3.length c1_3) := (blk_cell BK253.out 3).trans rfl
   have hcz33_4 : w11.cell? ⟨gb253, 4, none⟩ = some (.int .i64 a1_4) := (blk_cell BK253.out 4).trans rfl
   have hfz33_0 := blk_frozen BK253.out 0
   have hfz33_1 := blk_frozen BK253.out 1
   have hfz33_2 := blk_frozen BK253.out 2
   have hfz33_3 := blk_frozen BK253.out 3
   have hfz33_4 := blk_frozen BK253.out 4
   go_wp2
   go_meet
   case rel => exact ⟨_, (true), (by first | rfl | (simp; done) | (simp [*]; done)), H', ⟨by first | omega | exact Nat.le_refl _⟩, ⟨by exact qR (Kd.R_mono (Kd.R_far (p := ⟨gb268, 4, none⟩) (Kd.R_far (p := ⟨gb268, 3, none⟩) (Kd.R_far (p := ⟨gb268, 2, none⟩) (Kd.R_far (p := ⟨gb268, 1, none⟩) (Kd.R_far (p := ⟨gb268, 0, none⟩) (Kd.R_types HO256.out BK268.out (by decide)) (fun _ hk => hk.2) (.slice Ao12 t254.length co12)) (fun _ hk => hk.2) (.slice Ao16 t257.length co16)) (fun _ hk => hk.2) (.slice Ao17 t260.length co17)) (fun _ hk => hk.2) (.slice Ao18 t263.length co18)) (fun _ hk => hk.2) (.int .i64 t266)) (fun _ hk => ⟨hk.1.1, ⟨hk.1.2.1, hk.1.2.2⟩⟩))⟩, ⟨by exact qR (Kd.R_mono (Kd.R_far (p := ⟨gb268, 4, none⟩) (Kd.R_far (p := ⟨gb268, 3, none⟩) (Kd.R_far (p := ⟨gb268, 2, none⟩) (Kd.R_far (p := ⟨gb268, 1, none⟩) (Kd.R_far (p := ⟨gb268, 0, none⟩) (Kd.R_types HO259.out BK268.out (by decide)) (fun _ hk => hk.2) (.slice Ao12 t254.length co12)) (fun _ hk => hk.2) (.slice Ao16 t257.length co16)) (fun _ hk => hk.2) (.slice Ao17 t260.length co17)) (fun _ hk => hk.2) (.slice Ao18 t263.length co18)) (fun _ hk => hk.2) (.int .i64 t266)) (fun _ hk => ⟨hk.1.1, ⟨hk.1.2.1, hk.1.2.2⟩⟩))⟩, ⟨by exact qR (Kd.R_mono (Kd.R_far (p := ⟨gb268, 4, none⟩) (Kd.R_far (p := ⟨gb268, 3, none⟩) (Kd.R_far (p := ⟨gb268, 2, none⟩) (Kd.R_far (p := ⟨gb268, 1, none⟩) (Kd.R_far (p := ⟨gb268, 0, none⟩) (Kd.R_types HO262.out BK268.out (by decide)) (fun _ hk => hk.2) (.slice Ao12 t254.length co12)) (fun _ hk => hk.2) (.slice Ao16 t257.length co16)) (fun _ hk => hk.2) (.slice Ao17 t260.length co17)) (fun _ hk => hk.2) (.slice Ao18 t263.length co18)) (fun _ hk => hk.2) (.int .i64 t266)) (fun _ hk => ⟨hk.1.1, ⟨hk.1.2.1, hk.1.2.2⟩⟩))⟩, ⟨by exact qR (Kd.R_mono (Kd.R_far (p := ⟨gb268, 4, none⟩) (Kd.R_far (p := ⟨gb268, 3, none⟩) (Kd.R_far (p := ⟨gb268, 2, none⟩) (Kd.R_far (p := ⟨gb268, 1, none⟩) (Kd.R_far (p := ⟨gb268, 0, none⟩) (Kd.R_types HO265.out BK268.out (by decide)) (fun _ hk => hk.2) (.slice Ao12 t254.length co12)) (fun _ hk => hk.2) (.slice Ao16 t257.length co16)) (fun _ hk => hk.2) (.slice Ao17 t260.length co17)) (fun _ hk => hk.2) (.slice Ao18 t263.length co18)) (fun _ hk => hk.2) (.int .i64 t266)) (fun _ hk => ⟨hk.1.1, ⟨hk.1.2.1, hk.1.2.2⟩⟩))⟩, ⟨by (with_reducible repeat (first | refine blk_drewN ?_ _ | refine blk_drew ?_ | refine blk_alloc ?_ _)); refine blk_far ?_ NB252_268.out _; (with_reducible repeat (first | refine blk_drewN ?_ _ | refine blk_drew ?_ | refine blk_alloc ?_ _)); refine blk_far ?_ NB252_268.out _; (with_reducible repeat (first | refine blk_drewN ?_ _ | refine blk_drew ?_ | refine blk_alloc ?_ _)); refine blk_far ?_ NB252_268.out _; (with_reducible repeat (first | refine blk_drewN ?_ _ | refine blk_drew ?_ | refine blk_alloc ?_ _)); refine blk_far ?_ NB252_268.out _; (with_reducible repeat (first | refine blk_drewN ?_ _ | refine blk_drew ?_ | refine blk_alloc ?_ _)); refine blk_far ?_ NB252_268.out _; exact qB BK252.out⟩, ⟨by (with_reducible repeat (first | refine blk_drewN ?_ _ | refine blk_drew ?_ | refine blk_alloc ?_ _)); refine blk_far ?_ NB253_268.out _; (with_reducible repeat (first | refine blk_drewN ?_ _ | refine blk_drew ?_ | refine blk_alloc ?_ _)); refine blk_far ?_ NB253_268.out _; (with_reducible repeat (first | refine blk_drewN ?_ _ | refine blk_drew ?_ | refine blk_alloc ?_ _)); refine blk_far ?_ NB253_268.out _; (with_reducible repeat (first | refine blk_drewN ?_ _ | refine blk_drew ?_ | refine blk_alloc ?_ _)); refine blk_far ?_ NB253_268.out _; (with_reducible repeat (first | refine blk_drewN ?_ _ | refine blk_drew ?_ | refine blk_alloc ?_ _)); refine blk_far ?_ NB253_268.out _; exact qB BK253.out⟩, ⟨by (with_reducible repeat (first | refine blk_drewN ?_ _ | refine blk_drew ?_ | refine blk_alloc ?_ _)); refine blk_put (cs := #[.slice Ao12 t254.length co12, .slice Ao16 t257.length co16, .slice Ao17 t260.length co17, .slice Ao18 t263.length co18, .int .i64 0]) ?_ 4 _ rfl; (with_reducible repeat (first | refine blk_drewN ?_ _ | refine blk_drew ?_ | refine blk_alloc ?_ _)); refine blk_put (cs := #[.slice Ao12 t254.length co12, .slice Ao16 t257.length co16, .slice Ao17 t260.length co17, .slice none 0 0, .int .i64 0]) ?_ 3 _ rfl; (with_reducible repeat (first | refine blk_drewN ?_ _ | refine blk_drew ?_ | refine blk_alloc ?_ _)); refine blk_put (cs := #[.slice Ao12 t254.length co12, .slice Ao16 t257.length co16, .slice none 0 0, .slice none 0 0, .int .i64 0]) ?_ 2 _ rfl; (with_reducible repeat (first | refine blk_drewN ?_ _ | refine blk_drew ?_ | refine blk_alloc ?_ _)); refine blk_put (cs := #[.slice Ao12 t254.length co12, .slice none 0 0, .slice none 0 0, .slice none 0 0, .int .i64 0]) ?_ 1 _ rfl; (with_reducible repeat (first | refine blk_drewN ?_ _ | refine blk_drew ?_ | refine blk_alloc ?_ _)); refine blk_put (cs := #[.slice none 0 0, .slice none 0 0, .slice none 0 0, .slice none 0 0, .int .i64 0]) ?_ 0 _ rfl; exact qB BK268.out⟩, ⟨by repeat (first | (with_reducible first | exact HB.out | apply below_alloc | apply pw_below_drewN | apply below_drew1 | refine below_set ?_ GE252.out | refine below_set ?_ GE253.out | refine below_set ?_ GE268.out) | exact HB.out)⟩⟩
  rw [if_pos c19] at H
  have c19b0 : ((l1_0.length : Int) == (t254.length : Int)) = true := beq_iff_eq.mpr c19
  have c19b1 : ((l1_0.length : Int) != (t254.length : Int)) = false := bne_eq_false_iff_eq.mpr c19
  have c19b2 : (l1_0.length == t254.length) = true := by first | simpa using c19 | (simp at c19 ⊢; omega)
  clear c19
  (first | rw [c19b0] | (simp only [i64_w, i32_w]; rw [c19b0]) | skip)
  by_cases c20 : (l1_1.length : Int) = (t254.length : Int)
  case neg =>
   rw [if_neg c20] at H
   have c20b0 : ((l1_1.length : Int) == (t254.length : Int)) = false := beq_eq_false_iff_ne.mpr c20
   have c20b1 : ((l1_1.length : Int) != (t254.length : Int)) = true := bne_iff_ne.mpr c20
   have c20b2 : (l1_1.length == t254.length) = false := by first | simpa using c20 | (simp at c20 ⊢; omega)
   have H' := Aside0.mk H
   clear H
   have hnb28 := NB253_252.out
   have hnc28 := NB252_253.out
   have hnb29 := NB253_268.out
   have hnc29 := NB268_253.out
   have hcz30_0 : w11.cell? ⟨gb253, 0, none⟩ = some (.slice A1_0 l1_0.length c1_0) := (blk_cell BK253.out 0).trans rfl
   have hcz30_1 : w11.cell? ⟨gb253, 1, none⟩ = some (.slice A1_1 l1_1.length c1_1) := (blk_cell BK253.out 1).trans rfl
   have hcz30_2 : w11.cell? ⟨gb253, 2, none⟩ = some (.slice A1_2 l1_2.length c1_2) := (blk_cell BK253.out 2).trans rfl
   have hcz30_3 : w11.cell? ⟨gb253, 3, none⟩ = some (.slice A1_3 l1_3.length c1_3) := (blk_cell BK253.out 3).trans rfl
   have hcz30_4 : w11.cell? ⟨gb253, 4, none⟩ = some (.int .i64 a1_4) := (blk_cell BK253.out 4).trans rfl
   have hfz30_0 := blk_frozen BK253.out 0
   have hfz30_1 := blk_frozen BK253.out 1
   have hfz30_2 := blk_frozen BK253.out 2
   have hfz30_3 := blk_frozen BK253.out 3
   have hfz30_4 := blk_frozen BK253.out 4
   go_wp2
   go_meet
   case rel => exact ⟨_, (true), (by first | rfl | (simp; done) | (simp [*]; done)), H', ⟨by first | omega | exact Nat.le_refl _⟩, ⟨by exact qR (Kd.R_mono (Kd.R_far (p := ⟨gb268, 4, none⟩) (Kd.R_far (p := ⟨gb268, 3, none⟩) (Kd.R_far (p := ⟨gb268, 2, none⟩) (Kd.R_far (p := ⟨gb268, 1, none⟩) (Kd.R_far (p := ⟨gb268, 0, none⟩) (Kd.R_types HO256.out BK268.out (by decide)) (fun _ hk => hk.2) (.slice Ao12 t254.length co12)) (fun _ hk => hk.2) (.slice Ao16 t257.length co16)) (fun _ hk => hk.2) (.slice Ao17 t260.length co17)) (fun _ hk => hk.2) (.slice Ao18 t263.length co18)) (fun _ hk => hk.2) (.int .i64 t266)) (fun _ hk => ⟨hk.1.1, ⟨hk.1.2.1, hk.1.2.2⟩⟩))⟩, ⟨by exact qR (Kd.R_mono (Kd.R_far (p := ⟨gb268, 4, none⟩) (Kd.R_far (p := ⟨gb268, 3, none⟩) (Kd.R_far (p := ⟨gb268, 2, none⟩) (Kd.R_far (p := ⟨gb268, 1, none⟩) (Kd.R_far (p := ⟨gb268, 0, none⟩) (Kd.R_types HO259.out BK268.out (by decide)) (fun _ hk => hk.2) (.slice Ao12 t254.length co12)) (fun _ hk => hk.2) (.slice Ao16 t257.length co16)) (fun _ hk => hk.2) (.slice Ao17 t260.length co17)) (fun _ hk => hk.2) (.slice Ao18 t263.length co18)) (fun _ hk => hk.2) (.int .i64 t266)) (fun _ hk => ⟨hk.1.1, ⟨hk.1.2.1, hk.1.2.2⟩⟩))⟩, ⟨by exact qR (Kd.R_mono (Kd.R_far (p := ⟨gb268, 4, none⟩) (Kd.R_far (p := ⟨gb268, 3, none⟩) (Kd.R_far (p := ⟨gb268, 2, none⟩) (Kd.R_far (p := ⟨gb268, 1, none⟩) (Kd.R_far (p := ⟨gb268, 0, none⟩) (Kd.R_types HO262.out BK268.out (by decide)) (fun _ hk => hk.2) (.slice Ao12 t254.length co12)) (fun _ hk => hk.2) (.slice Ao16 t257.length co16)) (fun _ hk => hk.2) (.slice Ao17 t260.length co17)) (fun _ hk => hk.2) (.slice Ao18 t263.length co18)) (fun _ hk => hk.2) (.int .i64 t266)) (fun _ hk => ⟨hk.1.1, ⟨hk.1.2.1, hk.1.2.2⟩⟩))⟩, ⟨by exact qR (Kd.R_mono (Kd.R_far (p := ⟨gb268, 4, none⟩) (Kd.R_far (p := ⟨gb268, 3, none⟩) (Kd.R_far (p := ⟨gb268, 2, none⟩) (Kd.R_far (p := ⟨gb268, 1, none⟩) (Kd.R_far (p := ⟨gb268, 0, none⟩) (Kd.R_types HO265.out BK268.out (by decide)) (fun _ hk => hk.2) (.slice Ao12 t254.length co12)) (fun _ hk => hk.2) (.slice Ao16 t257.length co16)) (fun _ hk => hk.2) (.slice Ao17 t260.length co17)) (fun _ hk => hk.2) (.slice Ao18 t263.length co18)) (fun _ hk => hk.2) (.int .i64 t266)) (fun _ hk => ⟨hk.1.1, ⟨hk.1.2.1, hk.1.2.2⟩⟩))⟩, ⟨by (with_reducible repeat (first | refine blk_drewN ?_ _ | refine blk_drew ?_ | refine blk_alloc ?_ _)); refine blk_far ?_ NB252_268.out _; (with_reducible repeat (first | refine blk_drewN ?_ _ | refine blk_drew ?_ | refine blk_alloc ?_ _)); refine blk_far ?_ NB252_268.out _; (with_reducible repeat (first | refine blk_drewN ?_ _ | refine blk_drew ?_ | refine blk_alloc ?_ _)); refine blk_far ?_ NB252_268.out _; (with_reducible repeat (first | refine blk_drewN ?_ _ | refine blk_drew ?_ | refine blk_alloc ?_ _)); refine blk_far ?_ NB252_268.out _; (with_reducible repeat (first | refine blk_drewN ?_ _ | refine blk_drew ?_ | refine blk_alloc ?_ _)); refine blk_far ?_ NB252_268.out _; exact qB BK252.out⟩, ⟨by (with_reducible repeat (first | refine blk_drewN ?_ _ | refine blk_drew ?_ | refine blk_alloc ?_ _)); refine blk_far ?_ NB253_268.out _; (with_reducible repeat (first | refine blk_drewN ?_ _ | refine blk_drew ?_ | refine blk_alloc ?_ _)); refine blk_far ?_ NB253_268.out _; (with_reducible repeat (first | refine blk_drewN ?_ _ | refine blk_drew ?_ | refine blk_alloc ?_ _)); refine blk_far ?_ NB253_268.out _; (with_reducible repeat (first | refine blk_drewN ?_ _ | refine blk_drew ?_ | refine blk_alloc ?_ _)); refine blk_far ?_ NB253_268.out _; (with_reducible repeat (first | refine blk_drewN ?_ _ | refine blk_drew ?_ | refine blk_alloc ?_ _)); refine blk_far ?_ NB253_268.out _; exact qB BK253.out⟩, ⟨by (with_reducible repeat (first | refine blk_drewN ?_ _ | refine blk_drew ?_ | refine blk_alloc ?_ _)); refine blk_put (cs := #[.slice Ao12 t254.length co12, .slice Ao16 t257.length co16, .slice Ao17 t260.length co17, .slice Ao18 t263.length co18, .int .i64 0]) ?_ 4 _ rfl; (with_reducible repeat (first | refine blk_drewN ?_ _ | refine blk_drew ?_ | refine blk_alloc ?_ _)); refine blk_put (cs := #[.slice Ao12 t254.length co12, .slice Ao16 t257.length co16, .slice Ao17 t260.length co17, .slice none 0 0, .int .i64 0]) ?_ 3 _ rfl; (with_reducible repeat (first | refine blk_drewN ?_ _ | refine blk_drew ?_ | refine blk_alloc ?_ _)); refine blk_put (cs := #[.slice Ao12 t254.length co12, .slice Ao16 t257.length co16, .slice none 0 0, .slice none 0 0, .int .i64 0]) ?_ 2 _ rfl; (with_reducible repeat (first | refine blk_drewN ?_ _ | refine blk_drew ?_ | refine blk_alloc ?_ _)); refine blk_put (cs := #[.slice Ao12 t254.length co12, .slice none 0 0, .slice none 0 0, .slice none 0 0, .int .i64 0]) ?_ 1 _ rfl; (with_reducible repeat (first | refine blk_drewN ?_ _ | refine blk_drew ?_ | refine blk_alloc ?_ _)); refine blk_put (cs := #[.slice none 0 0, .slice none 0 0, .slice none 0 0, .slice none 0 0, .int .i64 0]) ?_ 0 _ rfl; exact qB BK268.out⟩, ⟨by repeat (first | (with_reducible first | exact HB.out | apply below_alloc | apply pw_below_drewN | apply below_drew1 | refine below_set ?_ GE252.out | refine below_set ?_ GE253.out | refine below_set ?_ GE268.out) | exact HB.out)⟩⟩
  rw [if_pos c20] at H
  have c20b0 : ((l1_1.length : Int) == (t254.length : Int)) = true := beq_iff_eq.mpr c20
  have c20b1 : ((l1_1.length : Int) != (t254.length : Int)) = false := bne_eq_false_iff_eq.mpr c20
  have c20b2 : (l1_1.length == t254.length) = true := by first | simpa using c20 | (simp at c20 ⊢; omega)
  clear c20
  by_cases c21 : (l1_2.length : Int) = (t254.length : Int)
  case neg =>
   rw [if_neg c21] at H
   have c21b0 : ((l1_2.length : Int) == (t254.length : Int)) = false := beq_eq_false_iff_ne.mpr c21
   have c21b1 : ((l1_2.length : Int) != (t254.length : Int)) = true := bne_iff_ne.mpr c21
   have c21b2 : (l1_2.length == t254.length) = false := by first | simpa using c21 | (simp at c21 ⊢; omega)
   have H' := Aside0.mk H
   clear H
   have hnb25 := NB253_252.out
   have hnc25 := NB252_253.out
   have hnb26 := NB253_268.out
   have hnc26 := NB268_253.out
   have hcz27_0 : w11.cell? ⟨gb253, 0, none⟩ = some (.slice A1_0 l1_0.length c1_0) := (blk_cell BK253.out 0).trans rfl
   have hcz27_1 : w11.cell? ⟨gb253, 1, none⟩ = some (.slice A1_1 l1_1.length c1_1) := (blk_cell BK253.out 1).trans rfl
   have hcz27_2 : w11.cell? ⟨gb253, 2, none⟩ = some (.slice A1_2 l1_2.length c1_2) := (blk_cell BK253.out 2).trans rfl
   have hcz27_3 : w11.cell? ⟨gb253, 3, none⟩ = some (.slice A1_3 l1_3.length c1_3) := (blk_cell BK253.out 3).trans rfl
   have hcz27_4 : w11.cell? ⟨gb253, 4, none⟩ = some (.int .i64 a1_4) := (blk_cell BK253.out 4).trans rfl
   have hfz27_0 := blk_frozen BK253.out 0
   have hfz27_1 := blk_frozen BK253.out 1
   have hfz27_2 := blk_frozen BK253.out 2
   have hfz27_3 := blk_frozen BK253.out 3
   have hfz27_4 := blk_frozen BK253.out 4
   go_wp2
   go_meet
   case rel => exact ⟨_, (true), (by first | rfl | (simp; done) | (simp [*]; done)), H', ⟨by first | omega | exact Nat.le_refl _⟩, ⟨by exact qR (Kd.R_mono (Kd.R_far (p := ⟨gb268, 4, none⟩) (Kd.R_far (p := ⟨gb268, 3, none⟩) (Kd.R_far (p := ⟨gb268, 2, none⟩) (Kd.R_far (p := ⟨gb268, 1, none⟩) (Kd.R_far (p := ⟨gb268, 0, none⟩) (Kd.R_types HO256.out BK268.out (by decide)) (fun _ hk => hk.2) (.slice Ao12 t254.length co12)) (fun _ hk => hk.2) (.slice Ao16 t257.length co16)) (fun _ hk => hk.2) (.slice Ao17 t260.length co17)) (fun _ hk => hk.2) (.slice Ao18 t263.length co18)) (fun _ hk => hk.2) (.int .i64 t266)) (fun _ hk => ⟨hk.1.1, ⟨hk.1.2.1, hk.1.2.2⟩⟩))⟩, ⟨by exact qR (Kd.R_mono (Kd.R_far (p := ⟨gb268, 4, none⟩) (Kd.R_far (p := ⟨gb268, 3, none⟩) (Kd.R_far (p := ⟨gb268, 2, none⟩) (Kd.R_far (p := ⟨gb268, 1, none⟩) (Kd.R_far (p := ⟨gb268, 0, none⟩) (Kd.R_types HO259.out BK268.out (by decide)) (fun _ hk => hk.2) (.slice Ao12 t254.length co12)) (fun _ hk => hk.2) (.slice Ao16 t257.length co16)) (fun _ hk => hk.2) (.slice Ao17 t260.length co17)) (fun _ hk => hk.2) (.slice Ao18 t263.length co18)) (fun _ hk => hk.2) (.int .i64 t266)) (fun _ hk => ⟨hk.1.1, ⟨hk.1.2.1, hk.1.2.2⟩⟩))⟩, ⟨by exact qR (Kd.R_mono (Kd.R_far (p := ⟨gb268, 4, none⟩) (Kd.R_far (p := ⟨gb268, 3, none⟩) (Kd.R_far (p := ⟨gb268, 2, none⟩) (Kd.R_far (p := ⟨gb268, 1, none⟩) (Kd.R_far (p := ⟨gb268, 0, none⟩) (Kd.R_types HO262.out BK268.out (by decide)) (fun _ hk => hk.2) (.slice Ao12 t254.length co12)) (fun _ hk => hk.2) (.slice Ao16 t257.length co16)) (fun _ hk => hk.2) (.slice Ao17 t260.length co17)) (fun _ hk => hk.2) (.slice Ao18 t263.length co18)) (fun _ hk => hk.2) (.int .i64 t266)) (fun _ hk => ⟨hk.1.1, ⟨hk.1.2.1, hk.1.2.2⟩⟩))⟩, ⟨by exact qR (Kd.R_mono (Kd.R_far (p := ⟨gb268, 4, none⟩) (Kd.R_far (p := ⟨gb268, 3, none⟩) (Kd.R_far (p := ⟨gb268, 2, none⟩) (Kd.R_far (p := ⟨gb268, 1, none⟩) (Kd.R_far (p := ⟨gb268, 0, none⟩) (Kd.R_types HO265.out BK268.out (by decide)) (fun _ hk => hk.2) (.slice Ao12 t254.length co12)) (fun _ hk => hk.2) (.slice Ao16 t257.length co16)) (fun _ hk => hk.2) (.slice Ao17 t260.length co17)) (fun _ hk => hk.2) (.slice Ao18 t263.length co18)) (fun _ hk => hk.2) (.int .i64 t266)) (fun _ hk => ⟨hk.1.1, ⟨hk.1.2.1, hk.1.2.2⟩⟩))⟩, ⟨by (with_reducible repeat (first | refine blk_drewN ?_ _ | refine blk_drew ?_ | refine blk_alloc ?_ _)); refine blk_far ?_ NB252_268.out _; (with_reducible repeat (first | refine blk_drewN ?_ _ | refine blk_drew ?_ | refine blk_alloc ?_ _)); refine blk_far ?_ NB252_268.out _; (with_reducible repeat (first | refine blk_drewN ?_ _ | refine blk_drew ?_ | refine blk_alloc ?_ _)); refine blk_far ?_ NB252_268.out _; (with_reducible repeat (first | refine blk_drewN ?_ _ | refine blk_drew ?_ | refine blk_alloc ?_ _)); refine blk_far ?_ NB252_268.out _; (with_reducible repeat (first | refine blk_drewN ?_ _ | refine blk_drew ?_ | refine blk_alloc ?_ _)); refine blk_far ?_ NB252_268.out _; exact qB BK252.out⟩, ⟨by (with_reducible repeat (first | refine blk_drewN ?_ _ | refine blk_drew ?_ | refine blk_alloc ?_ _)); refine blk_far ?_ NB253_268.out _; (with_reducible repeat (first | refine blk_drewN ?_ _ | refine blk_drew ?_ | refine blk_alloc ?_ _)); refine blk_far ?_ NB253_268.out _; (with_reducible repeat (first | refine blk_drewN ?_ _ | refine blk_drew ?_ | refine blk_alloc ?_ _)); refine blk_far ?_ NB253_268.out _; (with_reducible repeat (first | refine blk_drewN ?_ _ | refine blk_drew ?_ | refine blk_alloc ?_ _)); refine blk_far ?_ NB253_268.out _; (with_reducible repeat (first | refine blk_drewN ?_ _ | refine blk_drew ?_ | refine blk_alloc ?_ _)); refine blk_far ?_ NB253_268.out _; exact qB BK253.out⟩, ⟨by (with_reducible repeat (first | refine blk_drewN ?_ _ | refine blk_drew ?_ | refine blk_alloc ?_ _)); refine blk_put (cs := #[.slice Ao12 t254.length co12, .slice Ao16 t257.length co16, .slice Ao17 t260.length co17, .slice Ao18 t263.length co18, .int .i64 0]) ?_ 4 _ rfl; (with_reducible repeat (first | refine blk_drewN ?_ _ | refine blk_drew ?_ | refine blk_alloc ?_ _)); refine blk_put (cs := #[.slice Ao12 t254.length co12, .slice Ao16 t257.length co16, .slice Ao17 t260.length co17, .slice none 0 0, .int .i64 0]) ?_ 3 _ rfl; (with_reducible repeat (first | refine blk_drewN ?_ _ | refine blk_drew ?_ | refine blk_alloc ?_ _)); refine blk_put (cs := #[.slice Ao12 t254.length co12, .slice Ao16 t257.length co16, .slice none 0 0, .slice none 0 0, .int .i64 0]) ?_ 2 _ rfl; (with_reducible repeat (first | refine blk_drewN ?_ _ | refine blk_drew ?_ | refine blk_alloc ?_ _)); refine blk_put (cs := #[.slice Ao12 t254.length co12, .slice none 0 0, .slice none 0 0, .slice none 0 0, .int .i64 0]) ?_ 1 _ rfl; (with_reducible repeat (first | refine blk_drewN ?_ _ | refine blk_drew ?_ | refine blk_alloc ?_ _)); refine blk_put (cs := #[.slice none 0 0, .slice none 0 0, .slice none 0 0, .slice none 0 0, .int .i64 0]) ?_ 0 _ rfl; exact qB BK268.out⟩, ⟨by repeat (first | (with_reducible first | exact HB.out | apply below_alloc | apply pw_below_drewN | apply below_drew1 | refine below_set ?_ GE252.out | refine below_set ?_ GE253.out | refine below_set ?_ GE268.out) | exact HB.out)⟩⟩
  rw [if_pos c21] at H
  have c21b0 : ((l1_2.length : Int) == (t254.length : Int)) = true := beq_iff_eq.mpr c21
  have c21b1 : ((l1_2.length : Int) != (t254.length : Int)) = false := bne_eq_false_iff_eq.mpr c21
  have c21b2 : (l1_2.length == t254.length) = true := by first | simpa using c21 | (simp at c21 ⊢; omega)
  clear c21
  have H' := Aside0.mk H
  clear H
  have hnb22 := NB253_252.out
  have hnc22 := NB252_253.out
  have hnb23 := NB253_268.out
  have hnc23 := NB268_253.out
  have hcz24_0 : w11.cell? ⟨gb253, 0, none⟩ = some (.slice A1_0 l1_0.length c1_0) := (blk_cell BK253.out 0).trans rfl
  have hcz24_1 : w11.cell? ⟨gb253, 1, none⟩ = some (.slice A1_1 l1_1.length c1_1) := (blk_cell BK253.out 1).trans rfl
  have hcz24_2 : w11.cell? ⟨gb253, 2, none⟩ = some (.slice A1_2 l1_2.length c1_2) := (blk_cell BK253.out 2).trans rfl
  have hcz24_3 : w11.cell? ⟨gb253, 3, none⟩ = some (.slice A1_3 l1_3.length c1_3) := (blk_cell BK253.out 3).trans rfl
  have hcz24_4 : w11.cell? ⟨gb253, 4, none⟩ = some (.int .i64 a1_4) := (blk_cell BK253.out 4).trans rfl
  have hfz24_0 := blk_frozen BK253.out 0
  have hfz24_1 := blk_frozen BK253.out 1
  have hfz24_2 := blk_frozen BK253.out 2
  have hfz24_3 := blk_frozen BK253.out 3
  have hfz24_4 := blk_frozen BK253.out 4
  go_wp2
  go_meet
  case rel => exact ⟨_, (((l1_3.length : Int) != (t254.length : Int))), (by first | rfl | (simp; done) | (simp [*]; done)), H', ⟨by first | omega | exact Nat.le_refl _⟩, ⟨by exact qR (Kd.R_mono (Kd.R_far (p := ⟨gb268, 4, none⟩) (Kd.R_far (p := ⟨gb268, 3, none⟩) (Kd.R_far (p := ⟨gb268, 2, none⟩) (Kd.R_far (p := ⟨gb268, 1, none⟩) (Kd.R_far (p := ⟨gb268, 0, none⟩) (Kd.R_types HO256.out BK268.out (by decide)) (fun _ hk => hk.2) (.slice Ao12 t254.length co12)) (fun _ hk => hk.2) (.slice Ao16 t257.length co16)) (fun _ hk => hk.2) (.slice Ao17 t260.length co17)) (fun _ hk => hk.2) (.slice Ao18 t263.length co18)) (fun _ hk => hk.2) (.int .i64 t266)) (fun _ hk => ⟨hk.1.1, ⟨hk.1.2.1, hk.1.2.2⟩⟩))⟩, ⟨by exact qR (Kd.R_mono (Kd.R_far (p := ⟨gb268, 4, none⟩) (Kd.R_far (p := ⟨gb268, 3, none⟩) (Kd.R_far (p := ⟨gb268, 2, none⟩) (Kd.R_far (p := ⟨gb268, 1, none⟩) (Kd.R_far (p := ⟨gb268, 0, none⟩) (Kd.R_types HO259.out BK268.out (by decide)) (fun _ hk => hk.2) (.slice Ao12 t254.length co12)) (fun _ hk => hk.2) (.slice Ao16 t257.length co16)) (fun _ hk => hk.2) (.slice Ao17 t260.length co17)) (fun _ hk => hk.2) (.slice Ao18 t263.length co18)) (fun _ hk => hk.2) (.int .i64 t266)) (fun _ hk => ⟨hk.1.1, ⟨hk.1.2.1, hk.1.2.2⟩⟩))⟩, ⟨by exact qR (Kd.R_mono (Kd.R_far (p := ⟨gb268, 4, none⟩) (Kd.R_far (p := ⟨gb268, 3, none⟩) (Kd.R_far (p := ⟨gb268, 2, none⟩) (Kd.R_far (p := ⟨gb268, 1, none⟩) (Kd.R_far (p := ⟨gb268, 0, none⟩) (Kd.R_types HO262.out BK268.out (by decide)) (fun _ hk => hk.2) (.slice Ao12 t254.length co12)) (fun _ hk => hk.2) (.slice Ao16 t257.length co16)) (fun _ hk => hk.2) (.slice Ao17 t260.length co17)) (fun _ hk => hk.2) (.slice Ao18 t263.length co18)) (fun _ hk => hk.2) (.int .i64 t266)) (fun _ hk => ⟨hk.1.1, ⟨hk.1.2.1, hk.1.2.2⟩⟩))⟩, ⟨by exact qR (Kd.R_mono (Kd.R_far (p := ⟨gb268, 4, none⟩) (Kd.R_far (p := ⟨gb268, 3, none⟩) (Kd.R_far (p := ⟨gb268, 2, none⟩) (Kd.R_far (p := ⟨gb268, 1, none⟩) (Kd.R_far (p := ⟨gb268, 0, none⟩) (Kd.R_types HO265.out BK268.out (by decide)) (fun _ hk => hk.2) (.slice Ao12 t254.length co12)) (fun _ hk => hk.2) (.slice Ao16 t257.length co16)) (fun _ hk => hk.2) (.slice Ao17 t260.length co17)) (fun _ hk => hk.2) (.slice Ao18 t263.length co18)) (fun _ hk => hk.2) (.int .i64 t266)) (fun _ hk => ⟨hk.1.1, ⟨hk.1.2.1, hk.1.2.2⟩⟩))⟩, ⟨by (with_reducible repeat (first | refine blk_drewN ?_ _ | refine blk_drew ?_ | refine blk_alloc ?_ _)); refine blk_far ?_ NB252_268.out _; (with_reducible repeat (first | refine blk_drewN ?_ _ | refine blk_drew ?_ | refine blk_alloc ?_ _)); refine blk_far ?_ NB252_268.out _; (with_reducible repeat (first | refine blk_drewN ?_ _ | refine blk_drew ?_ | refine blk_alloc ?_ _)); refine blk_far ?_ NB252_268.out _; (with_reducible repeat (first | refine blk_drewN ?_ _ | refine blk_drew ?_ | refine blk_alloc ?_ _)); refine blk_far ?_ NB252_268.out _; (with_reducible repeat (first | refine blk_drewN ?_ _ | refine blk_drew ?_ | refine blk_alloc ?_ _)); refine blk_far ?_ NB252_268.out _; exact qB BK252.out⟩, ⟨by (with_reducible repeat (first | refine blk_drewN ?_ _ | refine blk_drew ?_ | refine blk_alloc ?_ _)); refine blk_far ?_ NB253_268.out _; (with_reducible repeat (first | refine blk_drewN ?_ _ | refine blk_drew ?_ | refine blk_alloc ?_ _)); refine blk_far ?_ NB253_268.out _; (with_reducible repeat (first | refine blk_drewN ?_ _ | refine blk_drew ?_ | refine blk_alloc ?_ _)); refine blk_far ?_ NB253_268.out _; (with_reducible repeat (first | refine blk_drewN ?_ _ | refine blk_drew ?_ | refine blk_alloc ?_ _)); refine blk_far ?_ NB253_268.out _; (with_reducible repeat (first | refine blk_drewN ?_ _ | refine blk_drew ?_ | refine blk_alloc ?_ _)); refine blk_far ?_ NB253_268.out _; exact qB BK253.out⟩, ⟨by (with_reducible repeat (first | refine blk_drewN ?_ _ | refine blk_drew ?_ | refine blk_alloc ?_ _)); refine blk_put (cs := #[.slice Ao12 t254.length co12, .slice Ao16 t257.length co16, .slice Ao17 t260.length co17, .slice Ao18 t263.length co18, .int .i64 0]) ?_ 4 _ rfl; (with_reducible repeat (first | refine blk_drewN ?_ _ | refine blk_drew ?_ | refine blk_alloc ?_ _)); refine blk_put (cs := #[.slice Ao12 t254.length co12, .slice Ao16 t257.length co16, .slice Ao17 t260.length co17, .slice none 0 0, .int .i64 0]) ?_ 3 _ rfl; (with_reducible repeat (first | refine blk_drewN ?_ _ | refine blk_drew ?_ | refine blk_alloc ?_ _)); refine blk_put (cs := #[.slice Ao12 t254.length co12, .slice Ao16 t257.length co16, .slice none 0 0, .slice none 0 0, .int .i64 0]) ?_ 2 _ rfl; (with_reducible repeat (first | refine blk_drewN ?_ _ | refine blk_drew ?_ | refine blk_alloc ?_ _)); refine blk_put (cs := #[.slice Ao12 t254.length co12, .slice none 0 0, .slice none 0 0, .slice none 0 0, .int .i64 0]) ?_ 1 _ rfl; (with_reducible repeat (first | refine blk_drewN ?_ _ | refine blk_drew ?_ | refine blk_alloc ?_ _)); refine blk_put (cs := #[.slice none 0 0, .slice none 0 0, .slice none 0 0, .slice none 0 0, .int .i64 0]) ?_ 0 _ rfl; exact qB BK268.out⟩, ⟨by repeat (first | (with_reducible first | exact HB.out | apply below_alloc | apply pw_below_drewN | apply below_drew1 | refine below_set ?_ GE252.out | refine below_set ?_ GE253.out | refine below_set ?_ GE268.out) | exact HB.out)⟩⟩
 case rest =>
  clear HC5
  try clear c1
  try clear c2
  try clear p2
  try clear c3
  try clear c4
  try clear c4b0
  try clear c4b1
  try clear c8
  try clear c13
  try clear c14
  try clear c19
  try clear c19b0
  try clear c19b1
  try clear c19b2
  try clear c20
  try clear c20b0
  try clear c20b1
  try clear c20b2
  try clear c21
  try clear c21b0
  try clear c21b1
  try clear c21b2
  try clear c22
  try clear c23
  try clear c25
  try clear c26
  try clear c28
  try clear c29
  try clear c31
  try clear c32
  try clear hcz15_0
  try clear hcz15_1
  try clear hcz15_2
  try clear hcz15_3
  try clear hcz15_4
  try clear hcz24_0
  try clear hcz24_1
  try clear hcz24_2
  try clear hcz24_3
  try clear hcz24_4
  try clear hcz27_0
  try clear hcz27_1
  try clear hcz27_2
  try clear hcz27_3
  try clear hcz27_4
  try clear hcz30_0
  try clear hcz30_1
  try clear hcz30_2
  try clear hcz30_3
  try clear hcz30_4
  try clear hcz33_0
  try clear hcz33_1
  try clear hcz33_2
  try clear hcz33_3
  try clear hcz33_4
  try clear hcz9_0
  try clear hcz9_1
  try clear hcz9_2
  try clear hcz9_3
  try clear hcz9_4
  try clear hfz15_0
  try clear hfz15_1
  try clear hfz15_2
  try clear hfz15_3
  try clear hfz15_4
  try clear hfz24_0
  try clear hfz24_1
  try clear hfz24_2
  try clear hfz24_3
  try clear hfz24_4
  try clear hfz27_0
  try clear hfz27_1
  try clear hfz27_2
  try clear hfz27_3
  try clear hfz27_4
  try clear hfz30_0
  try clear hfz30_1
  try clear hfz30_2
  try clear hfz30_3
  try clear hfz30_4
  try clear hfz33_0
  try clear hfz33_1
  try clear hfz33_2
  try clear hfz33_3
  try clear hfz33_4
  try clear hfz9_0
  try clear hfz9_1
  try clear hfz9_2
  try clear hfz9_3
  try clear hfz9_4
  obtain ⟨kq, x44_4, rfl, HA, HJ4, HO_269000, HO_269001, HO_269002, HO_269003, BK252, BK253, BK268, HB⟩ := hcut
  cases kq with
  | zero => exact absurd HA.out (by simp [standbyref56_Verify.j0])
  | succ kj4 =>
   have H := HA.out
   clear HA
   simp only [standbyref56_Verify.j0] at H
   by_cases c34 : x44_4 = true
   ·subst c34
    have H1 : (some 6) = some r := by rw [if_pos rfl] at H; exact H
    clear H
    have H := H1
    clear H1
    obtain rfl := Option.some.inj H
    go_wp2
    go_ret
    exact ⟨by first | rfl | (simp [errW_none, errW_some] <;> rfl) | (simp [*, errW_none, errW_some] <;> rfl), by repeat (first | (with_reducible first | exact HB.out | apply below_alloc | apply pw_below_drewN | apply below_drew1 | refine below_set ?_ GE252.out | refine below_set ?_ GE253.out | refine below_set ?_ GE268.out) | exact HB.out)⟩
   ·replace c34 := Bool.eq_false_iff.mpr c34
    subst c34
    have H1 : ((standbyref56_Same.f kj4 l1_0 l1_1 l1_2 l1_3 a1_4 t254 t257 t260 t263 t266).bind fun t269 => (if t269 = true then (some 0) else (some 22))) = some r := by rw [if_neg (show ¬ (false = true) by decide)] at H; exact H
    clear H
    have H := H1
    clear H1
    replace H := Option.bind_eq_some_iff.mp H
    obtain ⟨t269, A350, H⟩ := H
    replace H : (if t269 = true then (some 0) else (some 22)) = some r := H
    have A35 := Aside0.mk A350
    clear A350
    by_cases c36 : t269 = true
    ·subst c36
     have H1 : (some 0) = some r := by rw [if_pos rfl] at H; exact H
     clear H
     have H := H1
     clear H1
     obtain rfl := Option.some.inj H
     have hnb37 := NB253_252.out
     have hnc37 := NB252_253.out
     have hnb38 := NB253_268.out
     have hnc38 := NB268_253.out
     have hcz39_0 : wc.cell? ⟨gb253, 0, none⟩ = some (.slice A1_0 l1_0.length c1_0) := (blk_cell BK253.out 0).trans rfl
     have hcz39_1 : wc.cell? ⟨gb253, 1, none⟩ = some (.slice A1_1 l1_1.length c1_1) := (blk_cell BK253.out 1).trans rfl
     have hcz39_2 : wc.cell? ⟨gb253, 2, none⟩ = some (.slice A1_2 l1_2.length c1_2) := (blk_cell BK253.out 2).trans rfl
     have hcz39_3 : wc.cell? ⟨gb253, 3, none⟩ = some (.slice A1_3 l1_3.length c1_3) := (blk_cell BK253.out 3).trans rfl
     have hcz39_4 : wc.cell? ⟨gb253, 4, none⟩ = some (.int .i64 a1_4) := (blk_cell BK253.out 4).trans rfl
     have hfz39_0 := blk_frozen BK253.out 0
     have hfz39_1 := blk_frozen BK253.out 1
     have hfz39_2 := blk_frozen BK253.out 2
     have hfz39_3 := blk_frozen BK253.out 3
     have hfz39_4 := blk_frozen BK253.out 4
     have hnb40 := NB268_252.out
     have hnc40 := NB252_268.out
     have hcz41_0 : wc.cell? ⟨gb268, 0, none⟩ = some (.slice Ao12 t254.length co12) := (blk_cell BK268.out 0).trans rfl
     have hcz41_1 : wc.cell? ⟨gb268, 1, none⟩ = some (.slice Ao16 t257.length co16) := (blk_cell BK268.out 1).trans rfl
     have hcz41_2 : wc.cell? ⟨gb268, 2, none⟩ = some (.slice Ao17 t260.length co17) := (blk_cell BK268.out 2).trans rfl
     have hcz41_3 : wc.cell? ⟨gb268, 3, none⟩ = some (.slice Ao18 t263.length co18) := (blk_cell BK268.out 3).trans rfl
     have hcz41_4 : wc.cell? ⟨gb268, 4, none⟩ = some (.int .i64 t266) := (blk_cell BK268.out 4).trans rfl
     have hfz41_0 := blk_frozen BK268.out 0
     have hfz41_1 := blk_frozen BK268.out 1
     have hfz41_2 := blk_frozen BK268.out 2
     have hfz41_3 := blk_frozen BK268.out 3
     have hfz41_4 := blk_frozen BK268.out 4
     go_wp2_with (first | ((with_reducible refine gate_callee (f := 17) rfl ?_); refine goesL_ (some 47) rfl rfl Try.func17 (by kernel_rfl) rfl #[.agg #[.slice A1_0 l1_0.length c1_0, .slice A1_1 l1_1.length c1_1, .slice A1_2 l1_2.length c1_2, .slice A1_3 l1_3.length c1_3, .int .i64 a1_4], .agg #[.slice Ao12 t254.length co12, .slice Ao16 t257.length co16, .slice Ao17 t260.length co17, .slice Ao18 t263.length co18, .int .i64 t266]] rfl (by (try simp only [List.map_toArray, List.map_cons, List.map_nil]); first | done | rfl | (simp only [List.length_drop, List.length_take]; rfl)) ?_; (with_reducible refine (standbyref56_Same.calls kj4 _ _ l1_0 _ _ l1_1 _ _ l1_2 _ _ l1_3 a1_4 _ _ t254 _ _ t257 _ _ t260 _ _ t263 t266 true _ ?side1 ?side2 ?side3 ?side4 ?side5 ?side6 ?side7 ?side8 ?side9 ?side10 ?side11 ?side12 ?side13 ?side14 ?side15 ?side16 A35.out).mono ?_); (case side1 => exact qC HR1_0.out HB.out); (case side2 => exact HC1_0.out); (case side3 => exact qC HR1_1.out HB.out); (case side4 => exact HC1_1.out); (case side5 => exact qC HR1_2.out HB.out); (case side6 => exact HC1_2.out); (case side7 => exact qC HR1_3.out HB.out); (case side8 => exact HC1_3.out); (case side9 => repeat (first | exact (Kd.R_reads' HO_269000.out).2.2 | (with_reducible refine Kd.C_alloc ?_ _) | (with_reducible refine Kd.C_drewN ?_ _) | (with_reducible refine Kd.C_drew ?_))); (case side10 => exact (Kd.R_reads' HO_269000.out).2.1); (case side11 => repeat (first | exact (Kd.R_reads' HO_269001.out).2.2 | (with_reducible refine Kd.C_alloc ?_ _) | (with_reducible refine Kd.C_drewN ?_ _) | (with_reducible refine Kd.C_drew ?_))); (case side12 => exact (Kd.R_reads' HO_269001.out).2.1); (case side13 => repeat (first | exact (Kd.R_reads' HO_269002.out).2.2 | (with_reducible refine Kd.C_alloc ?_ _) | (with_reducible refine Kd.C_drewN ?_ _) | (with_reducible refine Kd.C_drew ?_))); (case side14 => exact (Kd.R_reads' HO_269002.out).2.1); (case side15 => repeat (first | exact (Kd.R_reads' HO_269003.out).2.2 | (with_reducible refine Kd.C_alloc ?_ _) | (with_reducible refine Kd.C_drewN ?_ _) | (with_reducible refine Kd.C_drew ?_))); (case side16 => exact (Kd.R_reads' HO_269003.out).2.1); rintro e w42 ⟨rfl, hb⟩; refine ⟨_, rfl, ?_⟩; have n0_ := Aside0.mk (Kd.R_below (qR HO_269000.out) hb); have n1_ := Aside0.mk (Kd.R_below (qR HO_269001.out) hb); have n2_ := Aside0.mk (Kd.R_below (qR HO_269002.out) hb); have n3_ := Aside0.mk (Kd.R_below (qR HO_269003.out) hb); have n4_ := Aside0.mk (blk_below (qB BK252.out) hb); have n5_ := Aside0.mk (blk_below (qB BK253.out) hb); have n6_ := Aside0.mk (blk_below (qB BK268.out) hb); have n7_ := Aside0.mk (below_step (qW HB.out) hb); clear HO_269000 HO_269001 HO_269002 HO_269003 BK252 BK253 BK268 HB; have HO_269000 := n0_; have HO_269001 := n1_; have HO_269002 := n2_; have HO_269003 := n3_; have BK252 := n4_; have BK253 := n5_; have BK268 := n6_; have HB := n7_; clear n0_ n1_ n2_ n3_ n4_ n5_ n6_ n7_; (try clear hb); (try clear hb2); (try clear hk); (try clear hi)))
     go_ret
     exact ⟨by first | rfl | (simp [errW_none, errW_some] <;> rfl) | (simp [*, errW_none, errW_some] <;> rfl), by repeat (first | (with_reducible first | exact HB.out | apply below_alloc | apply pw_below_drewN | apply below_drew1 | refine below_set ?_ GE252.out | refine below_set ?_ GE253.out | refine below_set ?_ GE268.out) | exact HB.out)⟩
    ·replace c36 := Bool.eq_false_iff.mpr c36
     subst c36
     have H1 : (some 22) = some r := by rw [if_neg (show ¬ (false = true) by decide)] at H; exact H
     clear H
     have H := H1
     clear H1
     obtain rfl := Option.some.inj H
     have hnb43 := NB253_252.out
     have hnc43 := NB252_253.out
     have hnb44 := NB253_268.out
     have hnc44 := NB268_253.out
     have hcz45_0 : wc.cell? ⟨gb253, 0, none⟩ = some (.slice A1_0 l1_0.length c1_0) := (blk_cell BK253.out 0).trans rfl
     have hcz45_1 : wc.cell? ⟨gb253, 1, none⟩ = some (.slice A1_1 l1_1.length c1_1) := (blk_cell BK253.out 1).trans rfl
     have hcz45_2 : wc.cell? ⟨gb253, 2, none⟩ = some (.slice A1_2 l1_2.length c1_2) := (blk_cell BK253.out 2).trans rfl
     have hcz45_3 : wc.cell? ⟨gb253, 3, none⟩ = some (.slice A1_3 l1_3.length c1_3) := (blk_cell BK253.out 3).trans rfl
     have hcz45_4 : wc.cell? ⟨gb253, 4, none⟩ = some (.int .i64 a1_4) := (blk_cell BK253.out 4).trans rfl
     have hfz45_0 := blk_frozen BK253.out 0
     have hfz45_1 := blk_frozen BK253.out 1
     have hfz45_2 := blk_frozen BK253.out 2
     have hfz45_3 := blk_frozen BK253.out 3
     have hfz45_4 := blk_frozen BK253.out 4
     have hnb46 := NB268_252.out
     have hnc46 := NB252_268.out
     have hcz47_0 : wc.cell? ⟨gb268, 0, none⟩ = some (.slice Ao12 t254.length co12) := (blk_cell BK268.out 0).trans rfl
     have hcz47_1 : wc.cell? ⟨gb268, 1, none⟩ = some (.slice Ao16 t257.length co16) := (blk_cell BK268.out 1).trans rfl
     have hcz47_2 : wc.cell? ⟨gb268, 2, none⟩ = some (.slice Ao17 t260.length co17) := (blk_cell BK268.out 2).trans rfl
     have hcz47_3 : wc.cell? ⟨gb268, 3, none⟩ = some (.slice Ao18 t263.length co18) := (blk_cell BK268.out 3).trans rfl
     have hcz47_4 : wc.cell? ⟨gb268, 4, none⟩ = some (.int .i64 t266) := (blk_cell BK268.out 4).trans rfl
     have hfz47_0 := blk_frozen BK268.out 0
     have hfz47_1 := blk_frozen BK268.out 1
     have hfz47_2 := blk_frozen BK268.out 2
     have hfz47_3 := blk_frozen BK268.out 3
     have hfz47_4 := blk_frozen BK268.out 4
     go_wp2_with (first | ((with_reducible refine gate_callee (f := 17) rfl ?_); refine goesL_ (some 47) rfl rfl Try.func17 (by kernel_rfl) rfl #[.agg #[.slice A1_0 l1_0.length c1_0, .slice A1_1 l1_1.length c1_1, .slice A1_2 l1_2.length c1_2, .slice A1_3 l1_3.length c1_3, .int .i64 a1_4], .agg #[.slice Ao12 t254.length co12, .slice Ao16 t257.length co16, .slice Ao17 t260.length co17, .slice Ao18 t263.length co18, .int .i64 t266]] rfl (by (try simp only [List.map_toArray, List.map_cons, List.map_nil]); first | done | rfl | (simp only [List.length_drop, List.length_take]; rfl)) ?_; (with_reducible refine (standbyref56_Same.calls kj4 _ _ l1_0 _ _ l1_1 _ _ l1_2 _ _ l1_3 a1_4 _ _ t254 _ _ t257 _ _ t260 _ _ t263 t266 false _ ?side1 ?side2 ?side3 ?side4 ?side5 ?side6 ?side7 ?side8 ?side9 ?side10 ?side11 ?side12 ?side13 ?side14 ?side15 ?side16 A35.out).mono ?_); (case side1 => exact qC HR1_0.out HB.out); (case side2 => exact HC1_0.out); (case side3 => exact qC HR1_1.out HB.out); (case side4 => exact HC1_1.out); (case side5 => exact qC HR1_2.out HB.out); (case side6 => exact HC1_2.out); (case side7 => exact qC HR1_3.out HB.out); (case side8 => exact HC1_3.out); (case side9 => repeat (first | exact (Kd.R_reads' HO_269000.out).2.2 | (with_reducible refine Kd.C_alloc ?_ _) | (with_reducible refine Kd.C_drewN ?_ _) | (with_reducible refine Kd.C_drew ?_))); (case side10 => exact (Kd.R_reads' HO_269000.out).2.1); (case side11 => repeat (first | exact (Kd.R_reads' HO_269001.out).2.2 | (with_reducible refine Kd.C_alloc ?_ _) | (with_reducible refine Kd.C_drewN ?_ _) | (with_reducible refine Kd.C_drew ?_))); (case side12 => exact (Kd.R_reads' HO_269001.out).2.1); (case side13 => repeat (first | exact (Kd.R_reads' HO_269002.out).2.2 | (with_reducible refine Kd.C_alloc ?_ _) | (with_reducible refine Kd.C_drewN ?_ _) | (with_reducible refine Kd.C_drew ?_))); (case side14 => exact (Kd.R_reads' HO_269002.out).2.1); (case side15 => repeat (first | exact (Kd.R_reads' HO_269003.out).2.2 | (with_reducible refine Kd.C_alloc ?_ _) | (with_reducible refine Kd.C_drewN ?_ _) | (with_reducible refine Kd.C_drew ?_))); (case side16 => exact (Kd.R_reads' HO_269003.out).2.1); rintro e w48 ⟨rfl, hb⟩; refine ⟨_, rfl, ?_⟩; have n0_ := Aside0.mk (Kd.R_below (qR HO_269000.out) hb); have n1_ := Aside0.mk (Kd.R_below (qR HO_269001.out) hb); have n2_ := Aside0.mk (Kd.R_below (qR HO_269002.out) hb); have n3_ := Aside0.mk (Kd.R_below (qR HO_269003.out) hb); have n4_ := Aside0.mk (blk_below (qB BK252.out) hb); have n5_ := Aside0.mk (blk_below (qB BK253.out) hb); have n6_ := Aside0.mk (blk_below (qB BK268.out) hb); have n7_ := Aside0.mk (below_step (qW HB.out) hb); clear HO_269000 HO_269001 HO_269002 HO_269003 BK252 BK253 BK268 HB; have HO_269000 := n0_; have HO_269001 := n1_; have HO_269002 := n2_; have HO_269003 := n3_; have BK252 := n4_; have BK253 := n5_; have BK268 := n6_; have HB := n7_; clear n0_ n1_ n2_ n3_ n4_ n5_ n6_ n7_; (try clear hb); (try clear hb2); (try clear hk); (try clear hi)))
     go_ret
     exact ⟨by first | rfl | (simp [errW_none, errW_some] <;> rfl) | (simp [*, errW_none, errW_some] <;> rfl), by repeat (first | (with_reducible first | exact HB.out | apply below_alloc | apply pw_below_drewN | apply below_drew1 | refine below_set ?_ GE252.out | refine below_set ?_ GE253.out | refine below_set ?_ GE268.out) | exact HB.out)⟩
end Go.Proofs.Ytcflacjidabppaa.Pr

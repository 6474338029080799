-- Written by pp.py, a program of this session, over the translation of the given program; a machine's text: Lean checks it.
import Derived.Test.YtanlonngekgibaaGShort
import Derived.Test.YtanlonngekgibaaF41
import Derived.Test.YtanlonngekgibaaF42
import Derived.Test.YtanlonngekgibaaGCfCheck
namespace Go.Proofs.Ytanlonngekgibaa.Pr
open Go.RowKit Go.Proofs.YtanlonngekgibaaW.PrintWords Go.Proofs.YtanlonngekgibaaW.PrintLast Go.Proofs.YtanlonngekgibaaW.PrintMore
attribute [local go_sem] max2_int min2_int max_two min_two max_three min_three max_four min_four   -- for this text's walks alone
set_option linter.unusedVariables false
set_option linter.unusedSimpArgs false

/-! ### curve_Check: function 16 -/
mutual
def curve_Check.j0 : Nat → Bool → List Int → Int → Option (Int)
 | 0, _, _, _ => none
 | k + 1, x3, x107000, x107001 => if x3 = true then (some 6) else ((cf_Check1.f x107000).bind fun t107 => (if t107 = true then (curve_Check.j1 k t107 x107000 x107001) else ((curve_time.f x107001).bind fun t108 => (curve_Check.j1 k (!t108) x107000 x107001))))
def curve_Check.j1 : Nat → Bool → List Int → Int → Option (Int)
 | 0, _, _, _ => none
 | k + 1, x14, x107000, x107001 => if x14 = true then (some 2) else ((slices_IsSorted_int_int.f k x107000).bind fun t109 => (if t109 = true then (some 0) else (some 3)))
end
def curve_Check.f (k : Nat) (l0_0 : List Int) (a0_1 : Int) : Option (Int) := if (l0_0.length : Int) < 1 then (curve_Check.j0 k true l0_0 a0_1) else (curve_Check.j0 k (decide ((l0_0.length : Int) > 4096)) l0_0 a0_1)
theorem curve_Check.mono_l : ∀ k, (∀ y0 y1 y2, LeO (curve_Check.j0 k y0 y1 y2) (curve_Check.j0 (k + 1) y0 y1 y2)) ∧ (∀ y0 y1 y2, LeO (curve_Check.j1 k y0 y1 y2) (curve_Check.j1 (k + 1) y0 y1 y2))
 | 0 => ⟨fun _ _ _ r h => by simp [curve_Check.j0] at h, fun _ _ _ r h => by simp [curve_Check.j1] at h⟩
 | k + 1 => by
  obtain ⟨ih0, ih1⟩ := curve_Check.mono_l k
  refine ⟨?_, ?_⟩
  ·intro y0 y1 y2
   unfold curve_Check.j0
   repeat' first
   | (with_reducible exact ih0 _ _ _)
   | (with_reducible exact ih1 _ _ _)
   | (with_reducible exact slices_IsSorted_int_int.mono _ _)
   | (with_reducible exact LeO.refl _)
   | (with_reducible exact LeO.none _)
   | (with_reducible refine LeO.ite ?_ ?_)
   | (with_reducible refine LeO.bind ?_ (fun _ => ?_))
   | exact ih0 _ _ _
   | exact ih1 _ _ _
   | exact slices_IsSorted_int_int.mono _ _
   | exact LeO.none _
   | refine LeO.ite ?_ ?_
   | refine LeO.bind ?_ (fun _ => ?_)
  ·intro y0 y1 y2
   unfold curve_Check.j1
   repeat' first
   | (with_reducible exact ih0 _ _ _)
   | (with_reducible exact ih1 _ _ _)
   | (with_reducible exact slices_IsSorted_int_int.mono _ _)
   | (with_reducible exact LeO.refl _)
   | (with_reducible exact LeO.none _)
   | (with_reducible refine LeO.ite ?_ ?_)
   | (with_reducible refine LeO.bind ?_ (fun _ => ?_))
   | exact ih0 _ _ _
   | exact ih1 _ _ _
   | exact slices_IsSorted_int_int.mono _ _
   | exact LeO.none _
   | refine LeO.ite ?_ ?_
   | refine LeO.bind ?_ (fun _ => ?_)
theorem curve_Check.mono : ∀ a0 a1 k, LeO (curve_Check.f k a0 a1) (curve_Check.f (k + 1) a0 a1) := by
 intro a0 a1 k
 obtain ⟨ih0, ih1⟩ := curve_Check.mono_l k
 unfold curve_Check.f
 repeat' first
   | (with_reducible exact ih0 _ _ _)
   | (with_reducible exact ih1 _ _ _)
   | (with_reducible exact slices_IsSorted_int_int.mono _ _)
   | (with_reducible exact LeO.refl _)
   | (with_reducible exact LeO.none _)
   | (with_reducible refine LeO.ite ?_ ?_)
   | (with_reducible refine LeO.bind ?_ (fun _ => ?_))
   | exact ih0 _ _ _
   | exact ih1 _ _ _
   | exact slices_IsSorted_int_int.mono _ _
   | exact LeO.none _
   | refine LeO.ite ?_ ?_
   | refine LeO.bind ?_ (fun _ => ?_)
set_option maxHeartbeats 8000000 in
set_option maxRecDepth 100000 in
theorem curve_Check.calls (k : Nat) (A0_0 : Option Addr) (c0_0 : Nat) (l0_0 : List Int) (a0_1 : Int) (r : Int) (w : World) (hr0_0 : Kd.C (Kd.int .i64) w A0_0 l0_0.length l0_0) (hc0_0 : l0_0.length ≤ c0_0) (h : curve_Check.f k l0_0 a0_1 = some r) :
  Calls Try.prog 16 #[.agg #[.slice A0_0 l0_0.length c0_0, .int .i64 a0_1]] w fun e w' => e = .returned (.int .i64 r) ∧ Below w.heap.size w w' := by
 have hu24 := Try.underlying24
 have HR0_0 := Aside0.mk hr0_0
 have HC0_0 := Aside0.mk hc0_0
 clear hr0_0 hc0_0
 have HB := Aside0.mk (Below.refl w.heap.size w)
 have H : (if (l0_0.length : Int) < 1 then (curve_Check.j0 k true l0_0 a0_1) else (curve_Check.j0 k (decide ((l0_0.length : Int) > 4096)) l0_0 a0_1)) = some r := h
 clear h
 have HC2 := Aside0.mk H
 clear H
 go_enter Try.func16, Try.ntmps16
 go_upto_region 1 with (first | ((with_reducible refine gate_dst (N := 1) rfl ?_); (try (refine gate_guard (by rfl) ?_; dsimp only)); refine box_event ?hg (N := 1) ?hd (cs := #[.slice A0_0 l0_0.length c0_0, .int .i64 a0_1]) (t := 24) ?hr ?_; (case hd => rfl); (case hg => rfl); (case hr => first | (go_simp; done) | (go_simp; rfl)); intro gb106 hg w3 hbox hb; have n0_ := Aside0.mk (below_step (qW HB.out) hb); have n1_ := Aside0.mk (hbox); have n2_ := Aside0.mk ((by rw [hg]; exact (below_size (qW HB.out)) : w.heap.size ≤ gb106)); have n3_ := Aside0.mk ((by rw [hg]; exact (below_size (qW HB.out)) : w.heap.size ≤ gb106)); clear HB; have HB := n0_; have BK106 := n1_; have GW106 := n2_; have GE106 := n3_; clear n0_ n1_ n2_ n3_ hb hbox hg))
 (try simp only [Act.put, List.setIfInBounds_toArray, List.set_cons_zero, List.set_cons_succ])
 go_cut [3] (fun v3 wc => ∃ (kq : Nat) (x3_1 : Bool), v3 = .bool x3_1 ∧ Aside0 (curve_Check.j0 kq x3_1 l0_0 a0_1 = some r) ∧ Aside0 (kq ≤ k) ∧ Aside0 (wc.heap[gb106]? = some (.cells #[(.slice A0_0 l0_0.length c0_0), .int .i64 a0_1] 24 (0, 0))) ∧ Aside0 (Below w.heap.size w wc))
 case first =>
  have H := HC2.out
  clear HC2
  by_cases c4 : (l0_0.length : Int) < 1
  ·rw [if_pos c4] at H
   have c4b0 : decide ((l0_0.length : Int) < 1) = true := decide_eq_true c4
   have c4b1 : decide (l0_0.length < 1) = true := decide_eq_true (by omega)
   clear c4
   (first | rw [c4b0] | (simp only [i64_w, i32_w]; rw [c4b0]) | skip)
   have H' := Aside0.mk H
   clear H
   have hcz5_0 : w3.cell? ⟨gb106, 0, none⟩ = some (.slice A0_0 l0_0.length c0_0) := (blk_cell BK106.out 0).trans rfl
   have hcz5_1 : w3.cell? ⟨gb106, 1, none⟩ = some (.int .i64 a0_1) := (blk_cell BK106.out 1).trans rfl
   have hfz5_0 := blk_frozen BK106.out 0
   have hfz5_1 := blk_frozen BK106.out 1
   go_wp2
   go_meet
   case rel => exact ⟨_, (true), (by first | rfl | (simp; done) | (simp [*]; done)), H', ⟨by first | omega | exact Nat.le_refl _⟩, ⟨by exact qB BK106.out⟩, ⟨by repeat (first | (with_reducible first | exact HB.out | apply below_alloc | apply pw_below_drewN | apply below_drew1 | refine below_set ?_ GE106.out) | exact HB.out)⟩⟩
  ·rw [if_neg c4] at H
   have c4b0 : decide ((l0_0.length : Int) < 1) = false := decide_eq_false c4
   have c4b1 : decide (l0_0.length < 1) = false := decide_eq_false (by omega)
   clear c4
   (first | rw [c4b0] | (simp only [i64_w, i32_w]; rw [c4b0]) | skip)
   have H' := Aside0.mk H
   clear H
   have hcz6_0 : w3.cell? ⟨gb106, 0, none⟩ = some (.slice A0_0 l0_0.length c0_0) := (blk_cell BK106.out 0).trans rfl
   have hcz6_1 : w3.cell? ⟨gb106, 1, none⟩ = some (.int .i64 a0_1) := (blk_cell BK106.out 1).trans rfl
   have hfz6_0 := blk_frozen BK106.out 0
   have hfz6_1 := blk_frozen BK106.out 1
   go_wp2
   go_meet
   case rel => exact ⟨_, (decide ((l0_0.length : Int) > 4096)), (by first | rfl | (simp; done) | (simp [*]; done)), H', ⟨by first | omega | exact Nat.le_refl _⟩, ⟨by exact qB BK106.out⟩, ⟨by repeat (first | (with_reducible first | exact HB.out | apply below_alloc | apply pw_below_drewN | apply below_drew1 | refine below_set ?_ GE106.out) | exact HB.out)⟩⟩
 case rest =>
  clear HC2
  try clear c1
  try clear p2
  try clear c4
  try clear c4b0
  try clear c4b1
  try clear hcz5_0
  try clear hcz5_1
  try clear hcz6_0
  try clear hcz6_1
  try clear hfz5_0
  try clear hfz5_1
  try clear hfz6_0
  try clear hfz6_1
  obtain ⟨kq, x3_1, rfl, HA, HJ1, BK106, HB⟩ := hcut
  cases kq with
  | zero => exact absurd HA.out (by simp [curve_Check.j0])
  | succ kj1 =>
   have H := HA.out
   clear HA
   simp only [curve_Check.j0] at H
   by_cases c7 : x3_1 = true
   ·subst c7
    have H1 : (some 6) = some r := by rw [if_pos rfl] at H; exact H
    clear H
    have H := H1
    clear H1
    obtain rfl := Option.some.inj H
    go_wp2
    go_ret
    exact ⟨by first | rfl | (simp [errW_none, errW_some] <;> rfl) | (simp [*, errW_none, errW_some] <;> rfl), by repeat (first | (with_reducible first | exact HB.out | apply below_alloc | apply pw_below_drewN | apply below_drew1 | refine below_set ?_ GE106.out) | exact HB.out)⟩
   ·replace c7 := Bool.eq_false_iff.mpr c7
    subst c7
    have H1 : ((cf_Check1.f l0_0).bind fun t107 => (if t107 = true then (curve_Check.j1 kj1 t107 l0_0 a0_1) else ((curve_time.f a0_1).bind fun t108 => (curve_Check.j1 kj1 (!t108) l0_0 a0_1)))) = some r := by rw [if_neg (show ¬ (false = true) by decide)] at H; exact H
    clear H
    have H := H1
    clear H1
    replace H := Option.bind_eq_some_iff.mp H
    obtain ⟨t107, A80, H⟩ := H
    replace H : (if t107 = true then (curve_Check.j1 kj1 t107 l0_0 a0_1) else ((curve_time.f a0_1).bind fun t108 => (curve_Check.j1 kj1 (!t108) l0_0 a0_1))) = some r := H
    have A8 := Aside0.mk A80
    clear A80
    have HC9 := Aside0.mk H
    clear H
    have hcz10_0 : wc.cell? ⟨gb106, 0, none⟩ = some (.slice A0_0 l0_0.length c0_0) := (blk_cell BK106.out 0).trans rfl
    have hcz10_1 : wc.cell? ⟨gb106, 1, none⟩ = some (.int .i64 a0_1) := (blk_cell BK106.out 1).trans rfl
    have hfz10_0 := blk_frozen BK106.out 0
    have hfz10_1 := blk_frozen BK106.out 1
    go_upto_if 14 with (first | ((with_reducible refine gate_callee (f := 39) rfl ?_); refine goesL_ (some 17) rfl rfl Try.func39 (by kernel_rfl) rfl #[.slice A0_0 l0_0.length c0_0, .func (.func 40) #[] #[]] rfl (by (try simp only [List.map_toArray, List.map_cons, List.map_nil]); first | done | rfl | (simp only [List.length_drop, List.length_take]; rfl)) ?_; (with_reducible refine (cf_Check1.calls _ _ l0_0 t107 _ ?side1 ?side2 A8.out).mono ?_); (case side1 => exact qC HR0_0.out HB.out); (case side2 => exact HC0_0.out); rintro e w' ⟨rfl, ⟨nd, rfl⟩⟩; refine ⟨_, rfl, ?_⟩))
    (try simp only [Act.put, List.setIfInBounds_toArray, List.set_cons_zero, List.set_cons_succ])
    go_cut [14] (fun v14 wc => ∃ (kq : Nat) (x14_8 : Bool), v14 = .bool x14_8 ∧ Aside0 (curve_Check.j1 kq x14_8 l0_0 a0_1 = some r) ∧ Aside0 (kq ≤ kj1) ∧ Aside0 (wc.heap[gb106]? = some (.cells #[(.slice A0_0 l0_0.length c0_0), .int .i64 a0_1] 24 (0, 0))) ∧ Aside0 (Below w.heap.size w wc))
    case first =>
     have H := HC9.out
     clear HC9
     by_cases c11 : t107 = true
     ·subst c11
      have H1 : (curve_Check.j1 kj1 true l0_0 a0_1) = some r := by rw [if_pos rfl] at H; exact H
      clear H
      have H := H1
      clear H1
      have H' := Aside0.mk H
      clear H
      go_wp2
      go_meet
      case rel => exact ⟨_, (true), (by first | rfl | (simp; done) | (simp [*]; done)), H', ⟨by have := HJ1.out; first | omega | exact Nat.le_refl _⟩, ⟨by exact qB BK106.out⟩, ⟨by repeat (first | (with_reducible first | exact HB.out | apply below_alloc | apply pw_below_drewN | apply below_drew1 | refine below_set ?_ GE106.out) | exact HB.out)⟩⟩
     ·replace c11 := Bool.eq_false_iff.mpr c11
      subst c11
      have H1 : ((curve_time.f a0_1).bind fun t108 => (curve_Check.j1 kj1 (!t108) l0_0 a0_1)) = some r := by rw [if_neg (show ¬ (false = true) by decide)] at H; exact H
      clear H
      have H := H1
      clear H1
      replace H := Option.bind_eq_some_iff.mp H
      obtain ⟨t108, A120, H⟩ := H
      replace H : (curve_Check.j1 kj1 (!t108) l0_0 a0_1) = some r := H
      have A12 := Aside0.mk A120
      clear A120
      have H' := Aside0.mk H
      clear H
      have hcz13_0 : wc.cell? ⟨gb106, 0, none⟩ = some (.slice A0_0 l0_0.length c0_0) := (blk_cell BK106.out 0).trans rfl
      have hcz13_1 : wc.cell? ⟨gb106, 1, none⟩ = some (.int .i64 a0_1) := (blk_cell BK106.out 1).trans rfl
      have hfz13_0 := blk_frozen BK106.out 0
      have hfz13_1 := blk_frozen BK106.out 1
      go_wp2_with (first | ((with_reducible refine gate_callee (f := 41) rfl ?_); refine goesL_ (some 20) rfl rfl Try.func41 (by kernel_rfl) rfl #[.int .i64 a0_1] rfl (by (try simp only [List.map_toArray, List.map_cons, List.map_nil]); first | done | rfl | (simp only [List.length_drop, List.length_take]; rfl)) ?_; (with_reducible refine (curve_time.calls a0_1 t108 _ A12.out).mono ?_); rintro e w' ⟨rfl, ⟨nd, rfl⟩⟩; refine ⟨_, rfl, ?_⟩))
      go_meet
      case rel => exact ⟨_, (!t108), (by first | rfl | (simp; done) | (simp [*]; done)), H', ⟨by have := HJ1.out; first | omega | exact Nat.le_refl _⟩, ⟨by exact qB BK106.out⟩, ⟨by repeat (first | (with_reducible first | exact HB.out | apply below_alloc | apply pw_below_drewN | apply below_drew1 | refine below_set ?_ GE106.out) | exact HB.out)⟩⟩
    case rest =>
     clear HC9
     try clear c1
     try clear p2
     try clear c4
     try clear c4b0
     try clear c4b1
     try clear c7
     try clear c11
     try clear hcz10_0
     try clear hcz10_1
     try clear hcz13_0
     try clear hcz13_1
     try clear hcz5_0
     try clear hcz5_1
     try clear hcz6_0
     try clear hcz6_1
     try clear hfz10_0
     try clear hfz10_1
     try clear hfz13_0
     try clear hfz13_1
     try clear hfz5_0
     try clear hfz5_1
     try clear hfz6_0
     try clear hfz6_1
     try clear p2
     obtain ⟨kq, x14_8, rfl, HA, HJ8, BK106, HB⟩ := hcut
     cases kq with
     | zero => exact absurd HA.out (by simp [curve_Check.j1])
     | succ kj8 =>
      have H := HA.out
      clear HA
      simp only [curve_Check.j1] at H
      by_cases c14 : x14_8 = true
      ·subst c14
       have H1 : (some 2) = some r := by rw [if_pos rfl] at H; exact H
       clear H
       have H := H1
       clear H1
       obtain rfl := Option.some.inj H
       go_wp2
       go_ret
       exact ⟨by first | rfl | (simp [errW_none, errW_some] <;> rfl) | (simp [*, errW_none, errW_some] <;> rfl), by repeat (first | (with_reducible first | exact HB.out | apply below_alloc | apply pw_below_drewN | apply below_drew1 | refine below_set ?_ GE106.out) | exact HB.out)⟩
      ·replace c14 := Bool.eq_false_iff.mpr c14
       subst c14
       have H1 : ((slices_IsSorted_int_int.f kj8 l0_0).bind fun t109 => (if t109 = true then (some 0) else (some 3))) = some r := by rw [if_neg (show ¬ (false = true) by decide)] at H; exact H
       clear H
       have H := H1
       clear H1
       replace H := Option.bind_eq_some_iff.mp H
       obtain ⟨t109, A150, H⟩ := H
       replace H : (if t109 = true then (some 0) else (some 3)) = some r := H
       have A15 := Aside0.mk A150
       clear A150
       by_cases c16 : t109 = true
       ·subst c16
        have H1 : (some 0) = some r := by rw [if_pos rfl] at H; exact H
        clear H
        have H := H1
        clear H1
        obtain rfl := Option.some.inj H
        have hcz17_0 : wc.cell? ⟨gb106, 0, none⟩ = some (.slice A0_0 l0_0.length c0_0) := (blk_cell BK106.out 0).trans rfl
        have hcz17_1 : wc.cell? ⟨gb106, 1, none⟩ = some (.int .i64 a0_1) := (blk_cell BK106.out 1).trans rfl
        have hfz17_0 := blk_frozen BK106.out 0
        have hfz17_1 := blk_frozen BK106.out 1
        go_wp2_with (first | ((with_reducible refine gate_callee (f := 42) rfl ?_); refine goesL_ (some 25) rfl rfl Try.func42 (by kernel_rfl) rfl #[.slice A0_0 l0_0.length c0_0] rfl (by (try simp only [List.map_toArray, List.map_cons, List.map_nil]); first | done | rfl | (simp only [List.length_drop, List.length_take]; rfl)) ?_; (with_reducible refine (slices_IsSorted_int_int.calls kj8 _ _ l0_0 true _ ?side1 ?side2 A15.out).mono ?_); (case side1 => exact qC HR0_0.out HB.out); (case side2 => exact HC0_0.out); rintro e w' ⟨rfl, ⟨nd, rfl⟩⟩; refine ⟨_, rfl, ?_⟩))
        go_ret
        exact ⟨by first | rfl | (simp [errW_none, errW_some] <;> rfl) | (simp [*, errW_none, errW_some] <;> rfl), by repeat (first | (with_reducible first | exact HB.out | apply below_alloc | apply pw_below_drewN | apply below_drew1 | refine below_set ?_ GE106.out) | exact HB.out)⟩
       ·replace c16 := Bool.eq_false_iff.mpr c16
        subst c16
        have H1 : (some 3) = some r := by rw [if_neg (show ¬ (false = true) by decide)] at H; exact H
        clear H
        have H := H1
        clear H1
        obtain rfl := Option.some.inj H
        have hcz18_0 : wc.cell? ⟨gb106, 0, none⟩ = some (.slice A0_0 l0_0.length c0_0) := (blk_cell BK106.out 0).trans rfl
        have hcz18_1 : wc.cell? ⟨gb106, 1, none⟩ = some (.int .i64 a0_1) := (blk_cell BK106.out 1).trans rfl
        have hfz18_0 := blk_frozen BK106.out 0
        have hfz18_1 := blk_frozen BK106.out 1
        go_wp2_with (first | ((with_reducible refine gate_callee (f := 42) rfl ?_); refine goesL_ (some 25) rfl rfl Try.func42 (by kernel_rfl) rfl #[.slice A0_0 l0_0.length c0_0] rfl (by (try simp only [List.map_toArray, List.map_cons, List.map_nil]); first | done | rfl | (simp only [List.length_drop, List.length_take]; rfl)) ?_; (with_reducible refine (slices_IsSorted_int_int.calls kj8 _ _ l0_0 false _ ?side1 ?side2 A15.out).mono ?_); (case side1 => exact qC HR0_0.out HB.out); (case side2 => exact HC0_0.out); rintro e w' ⟨rfl, ⟨nd, rfl⟩⟩; refine ⟨_, rfl, ?_⟩))
        go_ret
        exact ⟨by first | rfl | (simp [errW_none, errW_some] <;> rfl) | (simp [*, errW_none, errW_some] <;> rfl), by repeat (first | (with_reducible first | exact HB.out | apply below_alloc | apply pw_below_drewN | apply below_drew1 | refine below_set ?_ GE106.out) | exact HB.out)⟩

end Go.Proofs.Ytanlonngekgibaa.Pr

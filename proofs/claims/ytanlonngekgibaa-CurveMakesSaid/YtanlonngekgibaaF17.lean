-- Written by pp.py, a program of this session, over the translation of the given program; a machine's text: Lean checks it.
import Derived.Test.YtanlonngekgibaaGShort
import Derived.Test.YtanlonngekgibaaF43
namespace Go.Proofs.Ytanlonngekgibaa.Pr
open Go.RowKit Go.Proofs.YtanlonngekgibaaW.PrintWords Go.Proofs.YtanlonngekgibaaW.PrintLast Go.Proofs.YtanlonngekgibaaW.PrintMore
attribute [local go_sem] max2_int min2_int max_two min_two max_three min_three max_four min_four   -- for this text's walks alone
set_option linter.unusedVariables false
set_option linter.unusedSimpArgs false

/-! ### standbyref55_Check: function 17 -/
mutual
def standbyref55_Check.j0 : Nat → Bool → List Int → Int → Option (Int)
 | 0, _, _, _ => none
 | k + 1, x14, x215000, x215001 => if x14 = true then (some 6) else (standbyref55_Check.l0 k 0 x215000 x215001)
def standbyref55_Check.l0 : Nat → Int → List Int → Int → Option (Int)
 | 0, _, _, _ => none
 | k + 1, x3, x215000, x215001 => if x3 < (x215000.length : Int) then (if 0 ≤ x3 then ((standbyref55_time.f (rd x215000 x3)).bind fun t216 => (if t216 = true then (standbyref55_Check.l0 k (wrap64 (x3 + 1)) x215000 x215001) else (some 2))) else (none)) else ((standbyref55_time.f x215001).bind fun t217 => (if t217 = true then (standbyref55_Check.l1 k 1 x215000 x215001) else (some 2)))
def standbyref55_Check.l1 : Nat → Int → List Int → Int → Option (Int)
 | 0, _, _, _ => none
 | k + 1, x4, x215000, x215001 => if x4 < (x215000.length : Int) then (if 0 ≤ x4 then (if 0 ≤ (wrap64 (x4 - 1)) then (if (wrap64 (x4 - 1)) < (x215000.length : Int) then (if (rd x215000 x4) < (rd x215000 (wrap64 (x4 - 1))) then (some 3) else (standbyref55_Check.l1 k (wrap64 (x4 + 1)) x215000 x215001)) else (none)) else (none)) else (none)) else (some 0)
end
def standbyref55_Check.f (k : Nat) (l0_0 : List Int) (a0_1 : Int) : Option (Int) := if (l0_0.length : Int) < 1 then (standbyref55_Check.j0 k true l0_0 a0_1) else (standbyref55_Check.j0 k (decide ((l0_0.length : Int) > 4096)) l0_0 a0_1)
theorem standbyref55_Check.mono_l : ∀ k, (∀ y0 y1 y2, LeO (standbyref55_Check.j0 k y0 y1 y2) (standbyref55_Check.j0 (k + 1) y0 y1 y2)) ∧ (∀ y0 y1 y2, LeO (standbyref55_Check.l0 k y0 y1 y2) (standbyref55_Check.l0 (k + 1) y0 y1 y2)) ∧ (∀ y0 y1 y2, LeO (standbyref55_Check.l1 k y0 y1 y2) (standbyref55_Check.l1 (k + 1) y0 y1 y2))
 | 0 => ⟨fun _ _ _ r h => by simp [standbyref55_Check.j0] at h, fun _ _ _ r h => by simp [standbyref55_Check.l0] at h, fun _ _ _ r h => by simp [standbyref55_Check.l1] at h⟩
 | k + 1 => by
  obtain ⟨ih0, ih1, ih2⟩ := standbyref55_Check.mono_l k
  refine ⟨?_, ?_, ?_⟩
  ·intro y0 y1 y2
   unfold standbyref55_Check.j0
   repeat' first
   | (with_reducible exact ih0 _ _ _)
   | (with_reducible exact ih1 _ _ _)
   | (with_reducible exact ih2 _ _ _)
   | (with_reducible exact LeO.refl _)
   | (with_reducible exact LeO.none _)
   | (with_reducible refine LeO.ite ?_ ?_)
   | (with_reducible refine LeO.bind ?_ (fun _ => ?_))
   | exact ih0 _ _ _
   | exact ih1 _ _ _
   | exact ih2 _ _ _
   | exact LeO.none _
   | refine LeO.ite ?_ ?_
   | refine LeO.bind ?_ (fun _ => ?_)
  ·intro y0 y1 y2
   unfold standbyref55_Check.l0
   repeat' first
   | (with_reducible exact ih0 _ _ _)
   | (with_reducible exact ih1 _ _ _)
   | (with_reducible exact ih2 _ _ _)
   | (with_reducible exact LeO.refl _)
   | (with_reducible exact LeO.none _)
   | (with_reducible refine LeO.ite ?_ ?_)
   | (with_reducible refine LeO.bind ?_ (fun _ => ?_))
   | exact ih0 _ _ _
   | exact ih1 _ _ _
   | exact ih2 _ _ _
   | exact LeO.none _
   | refine LeO.ite ?_ ?_
   | refine LeO.bind ?_ (fun _ => ?_)
  ·intro y0 y1 y2
   unfold standbyref55_Check.l1
   repeat' first
   | (with_reducible exact ih0 _ _ _)
   | (with_reducible exact ih1 _ _ _)
   | (with_reducible exact ih2 _ _ _)
   | (with_reducible exact LeO.refl _)
   | (with_reducible exact LeO.none _)
   | (with_reducible refine LeO.ite ?_ ?_)
   | (with_reducible refine LeO.bind ?_ (fun _ => ?_))
   | exact ih0 _ _ _
   | exact ih1 _ _ _
   | exact ih2 _ _ _
   | exact LeO.none _
   | refine LeO.ite ?_ ?_
   | refine LeO.bind ?_ (fun _ => ?_)
theorem standbyref55_Check.mono : ∀ a0 a1 k, LeO (standbyref55_Check.f k a0 a1) (standbyref55_Check.f (k + 1) a0 a1) := by
 intro a0 a1 k
 obtain ⟨ih0, ih1, ih2⟩ := standbyref55_Check.mono_l k
 unfold standbyref55_Check.f
 repeat' first
   | (with_reducible exact ih0 _ _ _)
   | (with_reducible exact ih1 _ _ _)
   | (with_reducible exact ih2 _ _ _)
   | (with_reducible exact LeO.refl _)
   | (with_reducible exact LeO.none _)
   | (with_reducible refine LeO.ite ?_ ?_)
   | (with_reducible refine LeO.bind ?_ (fun _ => ?_))
   | exact ih0 _ _ _
   | exact ih1 _ _ _
   | exact ih2 _ _ _
   | exact LeO.none _
   | refine LeO.ite ?_ ?_
   | refine LeO.bind ?_ (fun _ => ?_)
set_option maxHeartbeats 8000000 in
set_option maxRecDepth 100000 in
theorem standbyref55_Check.calls (k : Nat) (A0_0 : Option Addr) (c0_0 : Nat) (l0_0 : List Int) (a0_1 : Int) (r : Int) (w : World) (hr0_0 : Kd.C (Kd.int .i64) w A0_0 l0_0.length l0_0) (hc0_0 : l0_0.length ≤ c0_0) (h : standbyref55_Check.f k l0_0 a0_1 = some r) :
  Calls Try.prog 17 #[.agg #[.slice A0_0 l0_0.length c0_0, .int .i64 a0_1]] w fun e w' => e = .returned (.int .i64 r) ∧ Below w.heap.size w w' := by
 have hu24 := Try.underlying24
 have HR0_0 := Aside0.mk hr0_0
 have HC0_0 := Aside0.mk hc0_0
 clear hr0_0 hc0_0
 have HB := Aside0.mk (Below.refl w.heap.size w)
 have H : (if (l0_0.length : Int) < 1 then (standbyref55_Check.j0 k true l0_0 a0_1) else (standbyref55_Check.j0 k (decide ((l0_0.length : Int) > 4096)) l0_0 a0_1)) = some r := h
 clear h
 have HC2 := Aside0.mk H
 clear H
 go_enter Try.func17, Try.ntmps17
 go_upto_region 1 with (first | ((with_reducible refine gate_dst (N := 1) rfl ?_); (try (refine gate_guard (by rfl) ?_; dsimp only)); refine box_event ?hg (N := 1) ?hd (cs := #[.slice A0_0 l0_0.length c0_0, .int .i64 a0_1]) (t := 24) ?hr ?_; (case hd => rfl); (case hg => rfl); (case hr => first | (go_simp; done) | (go_simp; rfl)); intro gb214 hg w3 hbox hb; have n0_ := Aside0.mk (below_step (qW HB.out) hb); have n1_ := Aside0.mk (hbox); have n2_ := Aside0.mk ((by rw [hg]; exact (below_size (qW HB.out)) : w.heap.size ≤ gb214)); have n3_ := Aside0.mk ((by rw [hg]; exact (below_size (qW HB.out)) : w.heap.size ≤ gb214)); clear HB; have HB := n0_; have BK214 := n1_; have GW214 := n2_; have GE214 := n3_; clear n0_ n1_ n2_ n3_ hb hbox hg))
 repeat (go_quiet (first | ((with_reducible refine gate_dst (N := 1) rfl ?_); (try (refine gate_guard (by rfl) ?_; dsimp only)); refine box_event ?hg (N := 1) ?hd (cs := #[.slice A0_0 l0_0.length c0_0, .int .i64 a0_1]) (t := 24) ?hr ?_; (case hd => rfl); (case hg => rfl); (case hr => first | (go_simp; done) | (go_simp; rfl)); intro gb214 hg w3 hbox hb; have n0_ := Aside0.mk (below_step (qW HB.out) hb); have n1_ := Aside0.mk (hbox); have n2_ := Aside0.mk ((by rw [hg]; exact (below_size (qW HB.out)) : w.heap.size ≤ gb214)); have n3_ := Aside0.mk ((by rw [hg]; exact (below_size (qW HB.out)) : w.heap.size ≤ gb214)); clear HB; have HB := n0_; have BK214 := n1_; have GW214 := n2_; have GE214 := n3_; clear n0_ n1_ n2_ n3_ hb hbox hg)); go_upto_region 1 with (first | ((with_reducible refine gate_dst (N := 1) rfl ?_); (try (refine gate_guard (by rfl) ?_; dsimp only)); refine box_event ?hg (N := 1) ?hd (cs := #[.slice A0_0 l0_0.length c0_0, .int .i64 a0_1]) (t := 24) ?hr ?_; (case hd => rfl); (case hg => rfl); (case hr => first | (go_simp; done) | (go_simp; rfl)); intro gb214 hg w3 hbox hb; have n0_ := Aside0.mk (below_step (qW HB.out) hb); have n1_ := Aside0.mk (hbox); have n2_ := Aside0.mk ((by rw [hg]; exact (below_size (qW HB.out)) : w.heap.size ≤ gb214)); have n3_ := Aside0.mk ((by rw [hg]; exact (below_size (qW HB.out)) : w.heap.size ≤ gb214)); clear HB; have HB := n0_; have BK214 := n1_; have GW214 := n2_; have GE214 := n3_; clear n0_ n1_ n2_ n3_ hb hbox hg)))
 (try simp only [Act.put, List.setIfInBounds_toArray, List.set_cons_zero, List.set_cons_succ])
 go_cut [14] (fun v14 wc => ∃ (kq : Nat) (x14_1 : Bool), v14 = .bool x14_1 ∧ Aside0 (standbyref55_Check.j0 kq x14_1 l0_0 a0_1 = some r) ∧ Aside0 (kq ≤ k) ∧ Aside0 (wc.heap[gb214]? = some (.cells #[(.slice A0_0 l0_0.length c0_0), .int .i64 a0_1] 24 (0, 0))) ∧ Aside0 (Below w.heap.size w wc))
 case first =>
  have H := HC2.out
  clear HC2
  by_cases c4 : (l0_0.length : Int) < 1
  ·rw [if_pos c4] at H
   have c4b0 : decide ((l0_0.length : Int) < 1) = true := decide_eq_true c4
   have c4b1 : decide (l0_0.length < 1) = true := decide_eq_true (by omega)
   clear c4
   (first | rw [c4b0] | (simp only [i64_w, i32_w]; rw [c4b0]) | skip)
   have H' := Aside0.mk H
   clear H
   have hcz5_0 : w3.cell? ⟨gb214, 0, none⟩ = some (.slice A0_0 l0_0.length c0_0) := (blk_cell BK214.out 0).trans rfl
   have hcz5_1 : w3.cell? ⟨gb214, 1, none⟩ = some (.int .i64 a0_1) := (blk_cell BK214.out 1).trans rfl
   have hfz5_0 := blk_frozen BK214.out 0
   have hfz5_1 := blk_frozen BK214.out 1
   go_wp2
   repeat (go_quiet (fail); try go_wp2)
   go_meet
   case rel => exact ⟨_, (true), (by first | rfl | (simp; done) | (simp [*]; done)), H', ⟨by first | omega | exact Nat.le_refl _⟩, ⟨by exact qB BK214.out⟩, ⟨by repeat (first | (with_reducible first | exact HB.out | apply below_alloc | apply pw_below_drewN | apply below_drew1 | refine below_set ?_ GE214.out) | exact HB.out)⟩⟩
  ·rw [if_neg c4] at H
   have c4b0 : decide ((l0_0.length : Int) < 1) = false := decide_eq_false c4
   have c4b1 : decide (l0_0.length < 1) = false := decide_eq_false (by omega)
   clear c4
   (first | rw [c4b0] | (simp only [i64_w, i32_w]; rw [c4b0]) | skip)
   have H' := Aside0.mk H
   clear H
   have hcz6_0 : w3.cell? ⟨gb214, 0, none⟩ = some (.slice A0_0 l0_0.length c0_0) := (blk_cell BK214.out 0).trans rfl
   have hcz6_1 : w3.cell? ⟨gb214, 1, none⟩ = some (.int .i64 a0_1) := (blk_cell BK214.out 1).trans rfl
   have hfz6_0 := blk_frozen BK214.out 0
   have hfz6_1 := blk_frozen BK214.out 1
   go_wp2
   repeat (go_quiet (fail); try go_wp2)
   go_meet
   case rel => exact ⟨_, (decide ((l0_0.length : Int) > 4096)), (by first | rfl | (simp; done) | (simp [*]; done)), H', ⟨by first | omega | exact Nat.le_refl _⟩, ⟨by exact qB BK214.out⟩, ⟨by repeat (first | (with_reducible first | exact HB.out | apply below_alloc | apply pw_below_drewN | apply below_drew1 | refine below_set ?_ GE214.out) | exact HB.out)⟩⟩
 case rest =>
  clear HC2
  try clear c1
  try clear p2
  try clear c4
  try clear c4b0
  try clear c4b1
  try clear hcz5_0
  try clear hcz5_1
  try clear hcz6_0
  try clear hcz6_1
  try clear hfz5_0
  try clear hfz5_1
  try clear hfz6_0
  try clear hfz6_1
  obtain ⟨kq, x14_1, rfl, HA, HJ1, BK214, HB⟩ := hcut
  cases kq with
  | zero => exact absurd HA.out (by simp [standbyref55_Check.j0])
  | succ kj1 =>
   have H := HA.out
   clear HA
   simp only [standbyref55_Check.j0] at H
   by_cases c7 : x14_1 = true
   ·subst c7
    have H1 : (some 6) = some r := by rw [if_pos rfl] at H; exact H
    clear H
    have H := H1
    clear H1
    obtain rfl := Option.some.inj H
    go_wp2
    repeat (go_quiet (fail); try go_wp2)
    go_ret
    exact ⟨by first | rfl | (simp [errW_none, errW_some] <;> rfl) | (simp [*, errW_none, errW_some] <;> rfl), by repeat (first | (with_reducible first | exact HB.out | apply below_alloc | apply pw_below_drewN | apply below_drew1 | refine below_set ?_ GE214.out) | exact HB.out)⟩
   ·replace c7 := Bool.eq_false_iff.mpr c7
    subst c7
    have H1 : (standbyref55_Check.l0 kj1 0 l0_0 a0_1) = some r := by rw [if_neg (show ¬ (false = true) by decide)] at H; exact H
    clear H
    have H := H1
    clear H1
    have H' := Aside0.mk H
    clear H
    go_wp2
    repeat (go_quiet (fail); try go_wp2)
    go_loopg [3] kj1 (fun kq v3 w' => ∃ (x3_2 : Int), v3 = .int .i64 x3_2 ∧ Aside0 (standbyref55_Check.l0 kq x3_2 l0_0 a0_1 = some r) ∧ Aside0 (kq ≤ kj1) ∧ Aside0 (w'.heap[gb214]? = some (.cells #[(.slice A0_0 l0_0.length c0_0), .int .i64 a0_1] 24 (0, 0))) ∧ Aside0 (Below w.heap.size w w'))
    case atStart => exact ⟨(0), (by first | rfl | (simp; done) | (simp [*]; done)), H', ⟨Nat.le_refl _⟩, ⟨by exact qB BK214.out⟩, ⟨by repeat (first | (with_reducible first | exact HB.out | apply below_alloc | apply pw_below_drewN | apply below_drew1 | refine below_set ?_ GE214.out) | exact HB.out)⟩⟩
    case round =>
     clear H'
     try clear c1
     try clear p2
     try clear c4
     try clear c4b0
     try clear c4b1
     try clear c7
     try clear hcz5_0
     try clear hcz5_1
     try clear hcz6_0
     try clear hcz6_1
     try clear hfz5_0
     try clear hfz5_1
     try clear hfz6_0
     try clear hfz6_1
     try clear p2
     obtain ⟨x3_2, rfl, HA, HK2, BK214, HB⟩ := hrel
     cases gk with
     | zero => exact absurd HA.out (by simp [standbyref55_Check.l0])
     | succ k2 =>
      have H := HA.out
      clear HA
      simp only [standbyref55_Check.l0] at H
      by_cases c8 : x3_2 < (l0_0.length : Int)
      ·rw [if_pos c8] at H
       have c8b0 : decide (x3_2 < (l0_0.length : Int)) = true := decide_eq_true c8
       clear c8
       by_cases c9 : 0 ≤ x3_2
       case neg =>
        rw [if_neg c9] at H
        exact absurd H (by simp)
       rw [if_pos c9] at H
       have c9b0 : decide (0 ≤ x3_2) = true := decide_eq_true c9
       clear c9
       replace H := Option.bind_eq_some_iff.mp H
       obtain ⟨t216, A100, H⟩ := H
       replace H : (if t216 = true then (standbyref55_Check.l0 k2 (wrap64 (x3_2 + 1)) l0_0 a0_1) else (some 2)) = some r := H
       have A10 := Aside0.mk A100
       clear A100
       by_cases c11 : t216 = true
       case neg =>
        replace c11 := Bool.eq_false_iff.mpr c11
        subst c11
        have H1 : (some 2) = some r := by rw [if_neg (show ¬ (false = true) by decide)] at H; exact H
        clear H
        have H := H1
        clear H1
        obtain rfl := Option.some.inj H
        have hcz13_0 : wr.cell? ⟨gb214, 0, none⟩ = some (.slice A0_0 l0_0.length c0_0) := (blk_cell BK214.out 0).trans rfl
        have hcz13_1 : wr.cell? ⟨gb214, 1, none⟩ = some (.int .i64 a0_1) := (blk_cell BK214.out 1).trans rfl
        have hfz13_0 := blk_frozen BK214.out 0
        have hfz13_1 := blk_frozen BK214.out 1
        have p215 : 0 ≤ (x3_2 : Int) := of_decide_eq_true (by first | (with_reducible assumption) | assumption)
        have q215 : x3_2 < (l0_0.length : Int) := of_decide_eq_true (by first | (with_reducible assumption) | assumption)
        obtain ⟨ad215, e215, hx215_0⟩ := Kd.at_int HR0_0.out x3_2 p215 q215
        cases e215
        replace hx215_0 := (HB.out.cell (World.block_lt_of_cell? w _ hx215_0)).trans hx215_0
        replace p215 := eq_true p215
        replace q215 := eq_true q215
        go_wp2_with (first | (go_at_call 43; (with_reducible refine (standbyref55_time.calls (rd l0_0 x3_2) false _ A10.out).mono ?_); rintro e w' ⟨rfl, ⟨nd, rfl⟩⟩; (try first | exact ⟨rfl, _, World.drewN_drewN _ _ _⟩ | exact ⟨rfl, _, Eq.trans (World.drewN_drewN _ _ _) (congrArg (World.drewN _) (Nat.add_assoc _ _ _))⟩)))
        repeat (go_quiet (first | (go_at_call 43; (with_reducible refine (standbyref55_time.calls (rd l0_0 x3_2) false _ A10.out).mono ?_); rintro e w' ⟨rfl, ⟨nd, rfl⟩⟩; (try first | exact ⟨rfl, _, World.drewN_drewN _ _ _⟩ | exact ⟨rfl, _, Eq.trans (World.drewN_drewN _ _ _) (congrArg (World.drewN _) (Nat.add_assoc _ _ _))⟩))); try go_wp2_with (first | (go_at_call 43; (with_reducible refine (standbyref55_time.calls (rd l0_0 x3_2) false _ A10.out).mono ?_); rintro e w' ⟨rfl, ⟨nd, rfl⟩⟩; (try first | exact ⟨rfl, _, World.drewN_drewN _ _ _⟩ | exact ⟨rfl, _, Eq.trans (World.drewN_drewN _ _ _) (congrArg (World.drewN _) (Nat.add_assoc _ _ _))⟩))))
        go_ret
        exact ⟨by first | rfl | (simp [errW_none, errW_some] <;> rfl) | (simp [*, errW_none, errW_some] <;> rfl), by repeat (first | (with_reducible first | exact HB.out | apply below_alloc | apply pw_below_drewN | apply below_drew1 | refine below_set ?_ GE214.out) | exact HB.out)⟩
       subst c11
       have H1 : (standbyref55_Check.l0 k2 (wrap64 (x3_2 + 1)) l0_0 a0_1) = some r := by rw [if_pos rfl] at H; exact H
       clear H
       have H := H1
       clear H1
       have H' := Aside0.mk H
       clear H
       have hcz12_0 : wr.cell? ⟨gb214, 0, none⟩ = some (.slice A0_0 l0_0.length c0_0) := (blk_cell BK214.out 0).trans rfl
       have hcz12_1 : wr.cell? ⟨gb214, 1, none⟩ = some (.int .i64 a0_1) := (blk_cell BK214.out 1).trans rfl
       have hfz12_0 := blk_frozen BK214.out 0
       have hfz12_1 := blk_frozen BK214.out 1
       have p215 : 0 ≤ (x3_2 : Int) := of_decide_eq_true (by first | (with_reducible assumption) | assumption)
       have q215 : x3_2 < (l0_0.length : Int) := of_decide_eq_true (by first | (with_reducible assumption) | assumption)
       obtain ⟨ad215, e215, hx215_0⟩ := Kd.at_int HR0_0.out x3_2 p215 q215
       cases e215
       replace hx215_0 := (HB.out.cell (World.block_lt_of_cell? w _ hx215_0)).trans hx215_0
       replace p215 := eq_true p215
       replace q215 := eq_true q215
       go_wp2_with (first | (go_at_call 43; (with_reducible refine (standbyref55_time.calls (rd l0_0 x3_2) true _ A10.out).mono ?_); rintro e w' ⟨rfl, ⟨nd, rfl⟩⟩; (try first | exact ⟨rfl, _, World.drewN_drewN _ _ _⟩ | exact ⟨rfl, _, Eq.trans (World.drewN_drewN _ _ _) (congrArg (World.drewN _) (Nat.add_assoc _ _ _))⟩)))
       repeat (go_quiet (first | (go_at_call 43; (with_reducible refine (standbyref55_time.calls (rd l0_0 x3_2) true _ A10.out).mono ?_); rintro e w' ⟨rfl, ⟨nd, rfl⟩⟩; (try first | exact ⟨rfl, _, World.drewN_drewN _ _ _⟩ | exact ⟨rfl, _, Eq.trans (World.drewN_drewN _ _ _) (congrArg (World.drewN _) (Nat.add_assoc _ _ _))⟩))); try go_wp2_with (first | (go_at_call 43; (with_reducible refine (standbyref55_time.calls (rd l0_0 x3_2) true _ A10.out).mono ?_); rintro e w' ⟨rfl, ⟨nd, rfl⟩⟩; (try first | exact ⟨rfl, _, World.drewN_drewN _ _ _⟩ | exact ⟨rfl, _, Eq.trans (World.drewN_drewN _ _ _) (congrArg (World.drewN _) (Nat.add_assoc _ _ _))⟩))))
       go_roundg k2
       case measure => have := HJ1.out; have := HK2.out; omega
       case rel => exact ⟨(wrap64 (x3_2 + 1)), (by first | rfl | (simp; done) | (simp [*]; done)), H', ⟨by have := HJ1.out; have := HK2.out; omega⟩, ⟨by exact qB BK214.out⟩, ⟨by repeat (first | (with_reducible first | exact HB.out | apply below_alloc | apply pw_below_drewN | apply below_drew1 | refine below_set ?_ GE214.out) | exact HB.out)⟩⟩
      ·rw [if_neg c8] at H
       have c8b0 : decide (x3_2 < (l0_0.length : Int)) = false := decide_eq_false c8
       clear c8
       replace H := Option.bind_eq_some_iff.mp H
       obtain ⟨t217, A140, H⟩ := H
       replace H : (if t217 = true then (standbyref55_Check.l1 k2 1 l0_0 a0_1) else (some 2)) = some r := H
       have A14 := Aside0.mk A140
       clear A140
       by_cases c15 : t217 = true
       case neg =>
        replace c15 := Bool.eq_false_iff.mpr c15
        subst c15
        have H1 : (some 2) = some r := by rw [if_neg (show ¬ (false = true) by decide)] at H; exact H
        clear H
        have H := H1
        clear H1
        obtain rfl := Option.some.inj H
        have hcz26_0 : wr.cell? ⟨gb214, 0, none⟩ = some (.slice A0_0 l0_0.length c0_0) := (blk_cell BK214.out 0).trans rfl
        have hcz26_1 : wr.cell? ⟨gb214, 1, none⟩ = some (.int .i64 a0_1) := (blk_cell BK214.out 1).trans rfl
        have hfz26_0 := blk_frozen BK214.out 0
        have hfz26_1 := blk_frozen BK214.out 1
        go_wp2_with (first | (go_at_call 43; (with_reducible refine (standbyref55_time.calls a0_1 false _ A14.out).mono ?_); rintro e w' ⟨rfl, ⟨nd, rfl⟩⟩; (try first | exact ⟨rfl, _, World.drewN_drewN _ _ _⟩ | exact ⟨rfl, _, Eq.trans (World.drewN_drewN _ _ _) (congrArg (World.drewN _) (Nat.add_assoc _ _ _))⟩)))
        repeat (go_quiet (first | (go_at_call 43; (with_reducible refine (standbyref55_time.calls a0_1 false _ A14.out).mono ?_); rintro e w' ⟨rfl, ⟨nd, rfl⟩⟩; (try first | exact ⟨rfl, _, World.drewN_drewN _ _ _⟩ | exact ⟨rfl, _, Eq.trans (World.drewN_drewN _ _ _) (congrArg (World.drewN _) (Nat.add_assoc _ _ _))⟩))); try go_wp2_with (first | (go_at_call 43; (with_reducible refine (standbyref55_time.calls a0_1 false _ A14.out).mono ?_); rintro e w' ⟨rfl, ⟨nd, rfl⟩⟩; (try first | exact ⟨rfl, _, World.drewN_drewN _ _ _⟩ | exact ⟨rfl, _, Eq.trans (World.drewN_drewN _ _ _) (congrArg (World.drewN _) (Nat.add_assoc _ _ _))⟩))))
        go_ret
        exact ⟨by first | rfl | (simp [errW_none, errW_some] <;> rfl) | (simp [*, errW_none, errW_some] <;> rfl), by repeat (first | (with_reducible first | exact HB.out | apply below_alloc | apply pw_below_drewN | apply below_drew1 | refine below_set ?_ GE214.out) | exact HB.out)⟩

       subst c15
       have H1 : (standbyref55_Check.l1 k2 1 l0_0 a0_1) = some r := by rw [if_pos rfl] at H; exact H
       clear H
       have H := H1
       clear H1
       have H' := Aside0.mk H
       clear H
       have hcz16_0 : wr.cell? ⟨gb214, 0, none⟩ = some (.slice A0_0 l0_0.length c0_0) := (blk_cell BK214.out 0).trans rfl
       have hcz16_1 : wr.cell? ⟨gb214, 1, none⟩ = some (.int .i64 a0_1) := (blk_cell BK214.out 1).trans rfl
       have hfz16_0 := blk_frozen BK214.out 0
       have hfz16_1 := blk_frozen BK214.out 1
       go_wp2_with (first | (go_at_call 43; (with_reducible refine (standbyref55_time.calls a0_1 true _ A14.out).mono ?_); rintro e w' ⟨rfl, ⟨nd, rfl⟩⟩; (try first | exact ⟨rfl, _, World.drewN_drewN _ _ _⟩ | exact ⟨rfl, _, Eq.trans (World.drewN_drewN _ _ _) (congrArg (World.drewN _) (Nat.add_assoc _ _ _))⟩)))
       repeat (go_quiet (first | (go_at_call 43; (with_reducible refine (standbyref55_time.calls a0_1 true _ A14.out).mono ?_); rintro e w' ⟨rfl, ⟨nd, rfl⟩⟩; (try first | exact ⟨rfl, _, World.drewN_drewN _ _ _⟩ | exact ⟨rfl, _, Eq.trans (World.drewN_drewN _ _ _) (congrArg (World.drewN _) (Nat.add_assoc _ _ _))⟩))); try go_wp2_with (first | (go_at_call 43; (with_reducible refine (standbyref55_time.calls a0_1 true _ A14.out).mono ?_); rintro e w' ⟨rfl, ⟨nd, rfl⟩⟩; (try first | exact ⟨rfl, _, World.drewN_drewN _ _ _⟩ | exact ⟨rfl, _, Eq.trans (World.drewN_drewN _ _ _) (congrArg (World.drewN _) (Nat.add_assoc _ _ _))⟩))))
       go_loopg [4] k2 (fun kq v4 w' => ∃ (x4_3 : Int), v4 = .int .i64 x4_3 ∧ Aside0 (standbyref55_Check.l1 kq x4_3 l0_0 a0_1 = some r) ∧ Aside0 (kq ≤ k2) ∧ Aside0 (w'.heap[gb214]? = some (.cells #[(.slice A0_0 l0_0.length c0_0), .int .i64 a0_1] 24 (0, 0))) ∧ Aside0 (Below w.heap.size w w'))
       case atStart => exact ⟨(1), (by first | rfl | (simp; done) | (simp [*]; done)), H', ⟨Nat.le_refl _⟩, ⟨by exact qB BK214.out⟩, ⟨by repeat (first | (with_reducible first | exact HB.out | apply below_alloc | apply pw_below_drewN | apply below_drew1 | refine below_set ?_ GE214.out) | exact HB.out)⟩⟩
       case round =>
        clear H'
        try clear c1
        try clear p2
        try clear q2
        try clear hx2
        try clear c4
        try clear c4b0
        try clear c4b1
        try clear p6
        try clear c7
        try clear c8
        try clear c8b0
        try clear c9
        try clear c9b0
        try clear c11
        try clear c15
        try clear hcz12_0
        try clear hcz12_1
        try clear hcz13_0
        try clear hcz13_1
        try clear hcz16_0
        try clear hcz16_1
        try clear hcz5_0
        try clear hcz5_1
        try clear hcz6_0
        try clear hcz6_1
        try clear hfz12_0
        try clear hfz12_1
        try clear hfz13_0
        try clear hfz13_1
        try clear hfz16_0
        try clear hfz16_1
        try clear hfz5_0
        try clear hfz5_1
        try clear hfz6_0
        try clear hfz6_1
        try clear hx215_0
        try clear p2
        try clear p215
        try clear q215
        obtain ⟨x4_3, rfl, HA, HK3, BK214, HB⟩ := hrel
        cases gk with
        | zero => exact absurd HA.out (by simp [standbyref55_Check.l1])
        | succ k3 =>
         have H := HA.out
         clear HA
         simp only [standbyref55_Check.l1] at H
         by_cases c17 : x4_3 < (l0_0.length : Int)
         case neg =>
          rw [if_neg c17] at H
          have c17b0 : decide (x4_3 < (l0_0.length : Int)) = false := decide_eq_false c17
          clear c17
          obtain rfl := Option.some.inj H
          have hcz25_0 : wr.cell? ⟨gb214, 0, none⟩ = some (.slice A0_0 l0_0.length c0_0) := (blk_cell BK214.out 0).trans rfl
          have hcz25_1 : wr.cell? ⟨gb214, 1, none⟩ = some (.int .i64 a0_1) := (blk_cell BK214.out 1).trans rfl
          have hfz25_0 := blk_frozen BK214.out 0
          have hfz25_1 := blk_frozen BK214.out 1
          go_wp2
          repeat (go_quiet (fail); try go_wp2)
          go_ret
          exact ⟨by first | rfl | (simp [errW_none, errW_some] <;> rfl) | (simp [*, errW_none, errW_some] <;> rfl), by repeat (first | (with_reducible first | exact HB.out | apply below_alloc | apply pw_below_drewN | apply below_drew1 | refine below_set ?_ GE214.out) | exact HB.out)⟩
         rw [if_pos c17] at H
         have c17b0 : decide (x4_3 < (l0_0.length : Int)) = true := decide_eq_true c17
         clear c17
         by_cases c18 : 0 ≤ x4_3
         case neg =>
          rw [if_neg c18] at H
          exact absurd H (by simp)
         rw [if_pos c18] at H
         have c18b0 : decide (0 ≤ x4_3) = true := decide_eq_true c18
         clear c18
         obtain ⟨ji19, hji19⟩ : ∃ j_ : Int, (wrap64 (x4_3 - 1)) = j_ := ⟨_, rfl⟩
         replace H : (if 0 ≤ (ji19) then (if (ji19) < (l0_0.length : Int) then (if (rd l0_0 x4_3) < (rd l0_0 (ji19)) then (some 3) else (standbyref55_Check.l1 k3 (wrap64 (x4_3 + 1)) l0_0 a0_1)) else (none)) else (none)) = some r := by first | (rw [hji19] at H; exact H) | (simp only [hji19] at H ⊢; exact H)
         have hji19w : (IntKind.i64.wrap (x4_3 - 1)) = ji19 := (i64_w _).trans hji19
         by_cases c20 : 0 ≤ (ji19)
         case neg =>
          rw [if_neg c20] at H
          exact absurd H (by simp)
         rw [if_pos c20] at H
         have c20b0 : decide (0 ≤ (ji19)) = true := decide_eq_true c20
         clear c20
         by_cases c21 : (ji19) < (l0_0.length : Int)
         case neg =>
          rw [if_neg c21] at H
          exact absurd H (by simp)
         rw [if_pos c21] at H
         have c21b0 : decide ((ji19) < (l0_0.length : Int)) = true := decide_eq_true c21
         clear c21
         by_cases c22 : (rd l0_0 x4_3) < (rd l0_0 (ji19))
         ·rw [if_pos c22] at H
          have c22b0 : decide ((rd l0_0 x4_3) < (rd l0_0 (ji19))) = true := decide_eq_true c22
          clear c22
          obtain rfl := Option.some.inj H
          have hcz23_0 : wr.cell? ⟨gb214, 0, none⟩ = some (.slice A0_0 l0_0.length c0_0) := (blk_cell BK214.out 0).trans rfl
          have hcz23_1 : wr.cell? ⟨gb214, 1, none⟩ = some (.int .i64 a0_1) := (blk_cell BK214.out 1).trans rfl
          have hfz23_0 := blk_frozen BK214.out 0
          have hfz23_1 := blk_frozen BK214.out 1
          have p218 : 0 ≤ (x4_3 : Int) := of_decide_eq_true (by first | (with_reducible assumption) | assumption)
          have q218 : x4_3 < (l0_0.length : Int) := of_decide_eq_true (by first | (with_reducible assumption) | assumption)
          obtain ⟨ad218, e218, hx218_0⟩ := Kd.at_int HR0_0.out x4_3 p218 q218
          cases e218
          replace hx218_0 := (HB.out.cell (World.block_lt_of_cell? w _ hx218_0)).trans hx218_0
          replace p218 := eq_true p218
          replace q218 := eq_true q218
          have p219 : 0 ≤ ((ji19) : Int) := of_decide_eq_true (by first | (with_reducible assumption) | assumption)
          have q219 : (ji19) < (l0_0.length : Int) := of_decide_eq_true (by first | (with_reducible assumption) | assumption)
          obtain ⟨ad219, e219, hx219_0⟩ := Kd.at_int HR0_0.out (ji19) p219 q219
          obtain rfl : ad218 = ad219 := (by injection e219)
          replace hx219_0 := (HB.out.cell (World.block_lt_of_cell? w _ hx219_0)).trans hx219_0
          replace p219 := eq_true p219
          replace q219 := eq_true q219
          go_wp2
          repeat (go_quiet (fail); try go_wp2)
          go_ret
          exact ⟨by first | rfl | (simp [errW_none, errW_some] <;> rfl) | (simp only [← hji19]; first | rfl | (simp [errW_none, errW_some] <;> rfl)) | (simp [*, errW_none, errW_some] <;> rfl), by repeat (first | (with_reducible first | exact HB.out | apply below_alloc | apply pw_below_drewN | apply below_drew1 | refine below_set ?_ GE214.out) | exact HB.out)⟩
         ·rw [if_neg c22] at H
          have c22b0 : decide ((rd l0_0 x4_3) < (rd l0_0 (ji19))) = false := decide_eq_false c22
          clear c22
          have H' := Aside0.mk H
          clear H
          have hcz24_0 : wr.cell? ⟨gb214, 0, none⟩ = some (.slice A0_0 l0_0.length c0_0) := (blk_cell BK214.out 0).trans rfl
          have hcz24_1 : wr.cell? ⟨gb214, 1, none⟩ = some (.int .i64 a0_1) := (blk_cell BK214.out 1).trans rfl
          have hfz24_0 := blk_frozen BK214.out 0
          have hfz24_1 := blk_frozen BK214.out 1
          have p218 : 0 ≤ (x4_3 : Int) := of_decide_eq_true (by first | (with_reducible assumption) | assumption)
          have q218 : x4_3 < (l0_0.length : Int) := of_decide_eq_true (by first | (with_reducible assumption) | assumption)
          obtain ⟨ad218, e218, hx218_0⟩ := Kd.at_int HR0_0.out x4_3 p218 q218
          cases e218
          replace hx218_0 := (HB.out.cell (World.block_lt_of_cell? w _ hx218_0)).trans hx218_0
          replace p218 := eq_true p218
          replace q218 := eq_true q218
          have p219 : 0 ≤ ((ji19) : Int) := of_decide_eq_true (by first | (with_reducible assumption) | assumption)
          have q219 : (ji19) < (l0_0.length : Int) := of_decide_eq_true (by first | (with_reducible assumption) | assumption)
          obtain ⟨ad219, e219, hx219_0⟩ := Kd.at_int HR0_0.out (ji19) p219 q219
          obtain rfl : ad218 = ad219 := (by injection e219)
          replace hx219_0 := (HB.out.cell (World.block_lt_of_cell? w _ hx219_0)).trans hx219_0
          replace p219 := eq_true p219
          replace q219 := eq_true q219
          go_wp2
          repeat (go_quiet (fail); try go_wp2)
          go_roundg k3
          case measure => have := HJ1.out; have := HK2.out; have := HK3.out; omega
          case rel => exact ⟨(wrap64 (x4_3 + 1)), (by first | rfl | (simp; done) | (simp [*]; done)), H', ⟨by have := HJ1.out; have := HK2.out; have := HK3.out; omega⟩, ⟨by exact qB BK214.out⟩, ⟨by repeat (first | (with_reducible first | exact HB.out | apply below_alloc | apply pw_below_drewN | apply below_drew1 | refine below_set ?_ GE214.out) | exact HB.out)⟩⟩
end Go.Proofs.Ytanlonngekgibaa.Pr

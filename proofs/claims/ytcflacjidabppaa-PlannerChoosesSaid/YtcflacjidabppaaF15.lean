-- Written by pp.py, a program of this session, over the translation of the given program; a machine's text: Lean checks it.
import Derived.Test.YtcflacjidabppaaGShort
import Derived.Test.YtcflacjidabppaaF40
import Derived.Test.YtcflacjidabppaaGSectors
namespace Go.Proofs.Ytcflacjidabppaa.Pr
open Go.RowKit Go.Proofs.YtcflacjidabppaaW.PrintWords Go.Proofs.YtcflacjidabppaaW.PrintLast Go.Proofs.YtcflacjidabppaaW.PrintMore
attribute [local go_sem] max2_int min2_int max_two min_two max_three min_three max_four min_four   -- for this text's walks alone
set_option linter.unusedVariables false
set_option linter.unusedSimpArgs false

/-! ### planner_Check: function 15 -/
def planner_Check.j0 : Nat → Bool → List Int → List Int → Int → Int → Int → Option (Int)
 | 0, _, _, _, _, _, _ => none
 | k + 1, x3, aX, aY, aZ, bA, bB => if x3 = true then (some 6) else ((planner_sectors.f aX).bind fun t104 => (if t104 = true then ((planner_sectors.f aY).bind fun t105 => (if t105 = true then ((planner_between.f aZ 1 4096).bind fun t106 => (if t106 = true then ((planner_between.f bA 0 1073741824).bind fun t107 => (if t107 = true then ((planner_between.f bB 0 1073741824).bind fun t108 => (if t108 = true then (some 0) else (some 2))) else (some 2))) else (some 2))) else (some 2))) else (some 2)))
def planner_Check.f (k : Nat) (aC : List Int) (aD : List Int) (aG : Int) (aF : Int) (aE : Int) : Option (Int) := if (aC.length : Int) > 4096 then (planner_Check.j0 k true aC aD aG aF aE) else ((planner_between.f (aD.length : Int) 1 4096).bind fun t103 => (planner_Check.j0 k (!t103) aC aD aG aF aE))
theorem planner_Check.mono_l : ∀ k, (∀ y0 y1 y2 y3 y4 y5, LeO (planner_Check.j0 k y0 y1 y2 y3 y4 y5) (planner_Check.j0 (k + 1) y0 y1 y2 y3 y4 y5))
 | 0 => fun _ _ _ _ _ _ r h => by simp [planner_Check.j0] at h
 | k + 1 => by
  have ih0 := planner_Check.mono_l k
  ·intro y0 y1 y2 y3 y4 y5
   unfold planner_Check.j0
   repeat' first
   | (with_reducible exact ih0 _ _ _ _ _ _)
   | (with_reducible exact LeO.refl _)
   | (with_reducible exact LeO.none _)
   | (with_reducible refine LeO.ite ?_ ?_)
   | (with_reducible refine LeO.bind ?_ (fun _ => ?_))
   | exact ih0 _ _ _ _ _ _
   | exact LeO.none _
   | refine LeO.ite ?_ ?_
   | refine LeO.bind ?_ (fun _ => ?_)
theorem planner_Check.mono : ∀ a0 a1 a2 a3 a4 k, LeO (planner_Check.f k a0 a1 a2 a3 a4) (planner_Check.f (k + 1) a0 a1 a2 a3 a4) := by
 intro a0 a1 a2 a3 a4 k
 have ih0 := planner_Check.mono_l k
 unfold planner_Check.f
 repeat' first
   | (with_reducible exact ih0 _ _ _ _ _ _)
   | (with_reducible exact LeO.refl _)
   | (with_reducible exact LeO.none _)
   | (with_reducible refine LeO.ite ?_ ?_)
   | (with_reducible refine LeO.bind ?_ (fun _ => ?_))
   | exact ih0 _ _ _ _ _ _
   | exact LeO.none _
   | refine LeO.ite ?_ ?_
   | refine LeO.bind ?_ (fun _ => ?_)
set_option maxHeartbeats 8000000 in
set_option maxRecDepth 100000 in
theorem planner_Check.calls (k : Nat) (aH : Option Addr) (aI : Nat) (aC : List Int) (aJ : Option Addr) (aK : Nat) (aD : List Int) (aG : Int) (aF : Int) (aE : Int) (r : Int) (w : World) (aS : Kd.C (Kd.int .i64) w aH aC.length aC) (aT : aC.length ≤ aI) (aU : Kd.C (Kd.int .i64) w aJ aD.length aD) (aV : aD.length ≤ aK) (h : planner_Check.f k aC aD aG aF aE = some r) :
  Calls Try.prog 15 #[.agg #[.slice aH aC.length aI, .slice aJ aD.length aK, .int .i64 aG, .int .i64 aF, .int .i64 aE]] w fun e w' => e = .returned (.int .i64 r) ∧ Below w.heap.size w w' := by
 have hu24 := Try.underlying24
 have aM := Aside0.mk aS
 have aN := Aside0.mk aT
 clear aS aT
 have aP := Aside0.mk aU
 have aQ := Aside0.mk aV
 clear aU aV
 have HB := Aside0.mk (Below.refl w.heap.size w)
 have H : (if (aC.length : Int) > 4096 then (planner_Check.j0 k true aC aD aG aF aE) else ((planner_between.f (aD.length : Int) 1 4096).bind fun t103 => (planner_Check.j0 k (!t103) aC aD aG aF aE))) = some r := h
 clear h
 have HC2 := Aside0.mk H
 clear H
 go_enter Try.func15, Try.ntmps15
 go_upto_region 1 with (first | ((with_reducible refine gate_dst (N := 1) rfl ?_); (try (refine gate_guard (by rfl) ?_; dsimp only)); refine box_event ?hg (N := 1) ?hd (cs := #[.slice aH aC.length aI, .slice aJ aD.length aK, .int .i64 aG, .int .i64 aF, .int .i64 aE]) (t := 24) ?hr ?_; (case hd => rfl); (case hg => rfl); (case hr => first | (go_simp; done) | (go_simp; rfl)); intro aB hg w3 hbox hb; have n0_ := Aside0.mk (below_step (qW HB.out) hb); have n1_ := Aside0.mk (hbox); have n2_ := Aside0.mk ((by rw [hg]; exact (below_size (qW HB.out)) : w.heap.size ≤ aB)); have n3_ := Aside0.mk ((by rw [hg]; exact (below_size (qW HB.out)) : w.heap.size ≤ aB)); clear HB; have HB := n0_; have aA := n1_; have bW := n2_; have aL := n3_; clear n0_ n1_ n2_ n3_ hb hbox hg))
 (try simp only [Act.put, List.setIfInBounds_toArray, List.set_cons_zero, List.set_cons_succ])
 go_cut [3] (fun v3 wc => ∃ (kq : Nat) (aR : Bool), v3 = .bool aR ∧ Aside0 (planner_Check.j0 kq aR aC aD aG aF aE = some r) ∧ Aside0 (kq ≤ k) ∧ Aside0 (wc.heap[aB]? = some (.cells #[(.slice aH aC.length aI), (.slice aJ aD.length aK), .int .i64 aG, .int .i64 aF, .int .i64 aE] 24 (0, 0))) ∧ Aside0 (Below w.heap.size w wc))
 case first =>
  have H := HC2.out
  clear HC2
  by_cases c4 : (aC.length : Int) > 4096
  ·rw [if_pos c4] at H
   have aO : decide (4096 < (aC.length : Int)) = true := decide_eq_true c4
   have aW : decide (4096 < aC.length) = true := decide_eq_true (by omega)
   clear c4
   (first | rw [aO] | (simp only [i64_w, i32_w]; rw [aO]) | skip)
   have H' := Aside0.mk H
   clear H
   have bC : w3.cell? ⟨aB, 0, none⟩ = some (.slice aH aC.length aI) := (blk_cell aA.out 0).trans rfl
   have bD : w3.cell? ⟨aB, 1, none⟩ = some (.slice aJ aD.length aK) := (blk_cell aA.out 1).trans rfl
   have bE : w3.cell? ⟨aB, 2, none⟩ = some (.int .i64 aG) := (blk_cell aA.out 2).trans rfl
   have bF : w3.cell? ⟨aB, 3, none⟩ = some (.int .i64 aF) := (blk_cell aA.out 3).trans rfl
   have bG : w3.cell? ⟨aB, 4, none⟩ = some (.int .i64 aE) := (blk_cell aA.out 4).trans rfl
   have bH := blk_frozen aA.out 0
   have bI := blk_frozen aA.out 1
   have bJ := blk_frozen aA.out 2
   have bK := blk_frozen aA.out 3
   have bL := blk_frozen aA.out 4
   go_wp2
   go_meet
   case rel => exact ⟨_, (true), (by first | rfl | (simp; done) | (simp [*]; done)), H', ⟨by first | omega | exact Nat.le_refl _⟩, ⟨by exact qB aA.out⟩, ⟨by repeat (first | (with_reducible first | exact HB.out | apply below_alloc | apply pw_below_drewN | apply below_drew1 | refine below_set ?_ aL.out) | exact HB.out)⟩⟩
  ·rw [if_neg c4] at H
   have aO : decide (4096 < (aC.length : Int)) = false := decide_eq_false c4
   have aW : decide (4096 < aC.length) = false := decide_eq_false (by omega)
   clear c4
   (first | rw [aO] | (simp only [i64_w, i32_w]; rw [aO]) | skip)
   replace H := Option.bind_eq_some_iff.mp H
   obtain ⟨t103, A60, H⟩ := H
   replace H : (planner_Check.j0 k (!t103) aC aD aG aF aE) = some r := H
   have A6 := Aside0.mk A60
   clear A60
   have H' := Aside0.mk H
   clear H
   have bM : w3.cell? ⟨aB, 0, none⟩ = some (.slice aH aC.length aI) := (blk_cell aA.out 0).trans rfl
   have bN : w3.cell? ⟨aB, 1, none⟩ = some (.slice aJ aD.length aK) := (blk_cell aA.out 1).trans rfl
   have bO : w3.cell? ⟨aB, 2, none⟩ = some (.int .i64 aG) := (blk_cell aA.out 2).trans rfl
   have bP : w3.cell? ⟨aB, 3, none⟩ = some (.int .i64 aF) := (blk_cell aA.out 3).trans rfl
   have bQ : w3.cell? ⟨aB, 4, none⟩ = some (.int .i64 aE) := (blk_cell aA.out 4).trans rfl
   have bR := blk_frozen aA.out 0
   have bS := blk_frozen aA.out 1
   have bT := blk_frozen aA.out 2
   have bU := blk_frozen aA.out 3
   have bV := blk_frozen aA.out 4
   go_wp2_with (first | (go_at_call 40; (with_reducible refine (planner_between.calls (aD.length : Int) 1 4096 t103 _ A6.out).mono ?_); rintro e w' ⟨rfl, ⟨nd, rfl⟩⟩))
   go_meet
   case rel => exact ⟨_, (!t103), (by first | rfl | (simp; done) | (simp [*]; done)), H', ⟨by first | omega | exact Nat.le_refl _⟩, ⟨by exact qB aA.out⟩, ⟨by repeat (first | (with_reducible first | exact HB.out | apply below_alloc | apply pw_below_drewN | apply below_drew1 | refine below_set ?_ aL.out) | exact HB.out)⟩⟩
 case rest =>
  clear HC2
  try clear c1
  try clear p2
  try clear c4
  try clear aO
  try clear aW
  try clear bC
  try clear bD
  try clear bE
  try clear bF
  try clear bG
  try clear bM
  try clear bN
  try clear bO
  try clear bP
  try clear bQ
  try clear bH
  try clear bI
  try clear bJ
  try clear bK
  try clear bL
  try clear bR
  try clear bS
  try clear bT
  try clear bU
  try clear bV
  obtain ⟨kq, aR, rfl, HA, HJ1, aA, HB⟩ := hcut
  cases kq with
  | zero => exact absurd HA.out (by simp [planner_Check.j0])
  | succ kj1 =>
   have H := HA.out
   clear HA
   simp only [planner_Check.j0] at H
   by_cases c8 : aR = true
   ·subst c8
    have H1 : (some 6) = some r := by rw [if_pos rfl] at H; exact H
    clear H
    have H := H1
    clear H1
    obtain rfl := Option.some.inj H
    go_wp2
    go_ret
    exact ⟨by first | rfl | (simp [errW_none, errW_some] <;> rfl) | (simp [*, errW_none, errW_some] <;> rfl), by repeat (first | (with_reducible first | exact HB.out | apply below_alloc | apply pw_below_drewN | apply below_drew1 | refine below_set ?_ aL.out) | exact HB.out)⟩
   ·replace c8 := Bool.eq_false_iff.mpr c8
    subst c8
    have H1 : ((planner_sectors.f aC).bind fun t104 => (if t104 = true then ((planner_sectors.f aD).bind fun t105 => (if t105 = true then ((planner_between.f aG 1 4096).bind fun t106 => (if t106 = true then ((planner_between.f aF 0 1073741824).bind fun t107 => (if t107 = true then ((planner_between.f aE 0 1073741824).bind fun t108 => (if t108 = true then (some 0) else (some 2))) else (some 2))) else (some 2))) else (some 2))) else (some 2))) = some r := by rw [if_neg (show ¬ (false = true) by decide)] at H; exact H
    clear H
    have H := H1
    clear H1
    replace H := Option.bind_eq_some_iff.mp H
    obtain ⟨t104, A90, H⟩ := H
    replace H : (if t104 = true then ((planner_sectors.f aD).bind fun t105 => (if t105 = true then ((planner_between.f aG 1 4096).bind fun t106 => (if t106 = true then ((planner_between.f aF 0 1073741824).bind fun t107 => (if t107 = true then ((planner_between.f aE 0 1073741824).bind fun t108 => (if t108 = true then (some 0) else (some 2))) else (some 2))) else (some 2))) else (some 2))) else (some 2)) = some r := H
    have A9 := Aside0.mk A90
    clear A90
    by_cases c10 : t104 = true
    case neg =>
     replace c10 := Bool.eq_false_iff.mpr c10
     subst c10
     have H1 : (some 2) = some r := by rw [if_neg (show ¬ (false = true) by decide)] at H; exact H
     clear H
     have H := H1
     clear H1
     obtain rfl := Option.some.inj H
     have bX : wc.cell? ⟨aB, 0, none⟩ = some (.slice aH aC.length aI) := (blk_cell aA.out 0).trans rfl
     have bY : wc.cell? ⟨aB, 1, none⟩ = some (.slice aJ aD.length aK) := (blk_cell aA.out 1).trans rfl
     have bZ : wc.cell? ⟨aB, 2, none⟩ = some (.int .i64 aG) := (blk_cell aA.out 2).trans rfl
     have cA : wc.cell? ⟨aB, 3, none⟩ = some (.int .i64 aF) := (blk_cell aA.out 3).trans rfl
     have cB : wc.cell? ⟨aB, 4, none⟩ = some (.int .i64 aE) := (blk_cell aA.out 4).trans rfl
     have cC := blk_frozen aA.out 0
     have cD := blk_frozen aA.out 1
     have cE := blk_frozen aA.out 2
     have cF := blk_frozen aA.out 3
     have cG := blk_frozen aA.out 4
     go_wp2_with (first | ((with_reducible refine gate_callee (f := 41) rfl ?_); refine goesL_ (some 18) rfl rfl Try.func41 (by kernel_rfl) rfl #[.slice aH aC.length aI] rfl (by (try simp only [List.map_toArray, List.map_cons, List.map_nil]); first | done | rfl | (simp only [List.length_drop, List.length_take]; rfl)) ?_; (with_reducible refine (planner_sectors.calls _ _ aC false _ ?side1 ?side2 A9.out).mono ?_); (case side1 => exact qC aM.out HB.out); (case side2 => exact aN.out); rintro e w' ⟨rfl, ⟨nd, rfl⟩⟩; refine ⟨_, rfl, ?_⟩))
     go_ret
     exact ⟨by first | rfl | (simp [errW_none, errW_some] <;> rfl) | (simp [*, errW_none, errW_some] <;> rfl), by repeat (first | (with_reducible first | exact HB.out | apply below_alloc | apply pw_below_drewN | apply below_drew1 | refine below_set ?_ aL.out) | exact HB.out)⟩

    subst c10
    have H1 : ((planner_sectors.f aD).bind fun t105 => (if t105 = true then ((planner_between.f aG 1 4096).bind fun t106 => (if t106 = true then ((planner_between.f aF 0 1073741824).bind fun t107 => (if t107 = true then ((planner_between.f aE 0 1073741824).bind fun t108 => (if t108 = true then (some 0) else (some 2))) else (some 2))) else (some 2))) else (some 2))) = some r := by rw [if_pos rfl] at H; exact H
    clear H
    have H := H1
    clear H1
    replace H := Option.bind_eq_some_iff.mp H
    obtain ⟨t105, A110, H⟩ := H
    replace H : (if t105 = true then ((planner_between.f aG 1 4096).bind fun t106 => (if t106 = true then ((planner_between.f aF 0 1073741824).bind fun t107 => (if t107 = true then ((planner_between.f aE 0 1073741824).bind fun t108 => (if t108 = true then (some 0) else (some 2))) else (some 2))) else (some 2))) else (some 2)) = some r := H
    have A11 := Aside0.mk A110
    clear A110
    by_cases c12 : t105 = true
    case neg =>
     replace c12 := Bool.eq_false_iff.mpr c12
     subst c12
     have H1 : (some 2) = some r := by rw [if_neg (show ¬ (false = true) by decide)] at H; exact H
     clear H
     have H := H1
     clear H1
     obtain rfl := Option.some.inj H
     have cH : wc.cell? ⟨aB, 0, none⟩ = some (.slice aH aC.length aI) := (blk_cell aA.out 0).trans rfl
     have cI : wc.cell? ⟨aB, 1, none⟩ = some (.slice aJ aD.length aK) := (blk_cell aA.out 1).trans rfl
     have cJ : wc.cell? ⟨aB, 2, none⟩ = some (.int .i64 aG) := (blk_cell aA.out 2).trans rfl
     have cK : wc.cell? ⟨aB, 3, none⟩ = some (.int .i64 aF) := (blk_cell aA.out 3).trans rfl
     have cL : wc.cell? ⟨aB, 4, none⟩ = some (.int .i64 aE) := (blk_cell aA.out 4).trans rfl
     have cM := blk_frozen aA.out 0
     have cN := blk_frozen aA.out 1
     have cO := blk_frozen aA.out 2
     have cP := blk_frozen aA.out 3
     have cQ := blk_frozen aA.out 4
     go_wp2_with (first | ((with_reducible refine gate_callee (f := 41) rfl ?_); refine goesL_ (some 18) rfl rfl Try.func41 (by kernel_rfl) rfl #[.slice aH aC.length aI] rfl (by (try simp only [List.map_toArray, List.map_cons, List.map_nil]); first | done | rfl | (simp only [List.length_drop, List.length_take]; rfl)) ?_; (with_reducible refine (planner_sectors.calls _ _ aC true _ ?side1 ?side2 A9.out).mono ?_); (case side1 => exact qC aM.out HB.out); (case side2 => exact aN.out); rintro e w' ⟨rfl, ⟨nd, rfl⟩⟩; refine ⟨_, rfl, ?_⟩) | (go_at_call 41; (with_reducible refine (planner_sectors.calls _ _ aD false _ ?side1 ?side2 A11.out).mono ?_); (case side1 => repeat (first | exact (Kd.C_below aP.out (qW HB.out)) | (with_reducible refine Kd.C_alloc ?_ _) | (with_reducible refine Kd.C_drewN ?_ _) | (with_reducible refine Kd.C_drew ?_))); (case side2 => exact aQ.out); rintro e w' ⟨rfl, ⟨nd, rfl⟩⟩))
     go_ret
     exact ⟨by first | rfl | (simp [errW_none, errW_some] <;> rfl) | (simp [*, errW_none, errW_some] <;> rfl), by repeat (first | (with_reducible first | exact HB.out | apply below_alloc | apply pw_below_drewN | apply below_drew1 | refine below_set ?_ aL.out) | exact HB.out)⟩
    subst c12
    have H1 : ((planner_between.f aG 1 4096).bind fun t106 => (if t106 = true then ((planner_between.f aF 0 1073741824).bind fun t107 => (if t107 = true then ((planner_between.f aE 0 1073741824).bind fun t108 => (if t108 = true then (some 0) else (some 2))) else (some 2))) else (some 2))) = some r := by rw [if_pos rfl] at H; exact H
    clear H
    have H := H1
    clear H1
    replace H := Option.bind_eq_some_iff.mp H
    obtain ⟨t106, A130, H⟩ := H
    replace H : (if t106 = true then ((planner_between.f aF 0 1073741824).bind fun t107 => (if t107 = true then ((planner_between.f aE 0 1073741824).bind fun t108 => (if t108 = true then (some 0) else (some 2))) else (some 2))) else (some 2)) = some r := H
    have A13 := Aside0.mk A130
    clear A130
    by_cases c14 : t106 = true
    case neg =>
     replace c14 := Bool.eq_false_iff.mpr c14
     subst c14
     have H1 : (some 2) = some r := by rw [if_neg (show ¬ (false = true) by decide)] at H; exact H
     clear H
     have H := H1
     clear H1
     obtain rfl := Option.some.inj H
     have cR : wc.cell? ⟨aB, 0, none⟩ = some (.slice aH aC.length aI) := (blk_cell aA.out 0).trans rfl
     have cS : wc.cell? ⟨aB, 1, none⟩ = some (.slice aJ aD.length aK) := (blk_cell aA.out 1).trans rfl
     have cT : wc.cell? ⟨aB, 2, none⟩ = some (.int .i64 aG) := (blk_cell aA.out 2).trans rfl
     have cU : wc.cell? ⟨aB, 3, none⟩ = some (.int .i64 aF) := (blk_cell aA.out 3).trans rfl
     have cV : wc.cell? ⟨aB, 4, none⟩ = some (.int .i64 aE) := (blk_cell aA.out 4).trans rfl
     have cW := blk_frozen aA.out 0
     have cX := blk_frozen aA.out 1
     have cY := blk_frozen aA.out 2
     have cZ := blk_frozen aA.out 3
     have dA := blk_frozen aA.out 4
     go_wp2_with (first | ((with_reducible refine gate_callee (f := 41) rfl ?_); refine goesL_ (some 18) rfl rfl Try.func41 (by kernel_rfl) rfl #[.slice aH aC.length aI] rfl (by (try simp only [List.map_toArray, List.map_cons, List.map_nil]); first | done | rfl | (simp only [List.length_drop, List.length_take]; rfl)) ?_; (with_reducible refine (planner_sectors.calls _ _ aC true _ ?side1 ?side2 A9.out).mono ?_); (case side1 => exact qC aM.out HB.out); (case side2 => exact aN.out); rintro e w' ⟨rfl, ⟨nd, rfl⟩⟩; refine ⟨_, rfl, ?_⟩) | (go_at_call 41; (with_reducible refine (planner_sectors.calls _ _ aD true _ ?side1 ?side2 A11.out).mono ?_); (case side1 => repeat (first | exact (Kd.C_below aP.out (qW HB.out)) | (with_reducible refine Kd.C_alloc ?_ _) | (with_reducible refine Kd.C_drewN ?_ _) | (with_reducible refine Kd.C_drew ?_))); (case side2 => exact aQ.out); rintro e w' ⟨rfl, ⟨nd, rfl⟩⟩) | (go_at_call 40; (with_reducible refine (planner_between.calls aG 1 4096 false _ A13.out).mono ?_); rintro e w' ⟨rfl, ⟨nd, rfl⟩⟩))
     go_ret
     exact ⟨by first | rfl | (simp [errW_none, errW_some] <;> rfl) | (simp [*, errW_none, errW_some] <;> rfl), by repeat (first | (with_reducible first | exact HB.out | apply below_alloc | apply pw_below_drewN | apply below_drew1 | refine below_set ?_ aL.out) | exact HB.out)⟩
    subst c14
    have H1 : ((planner_between.f aF 0 1073741824).bind fun t107 => (if t107 = true then ((planner_between.f aE 0 1073741824).bind fun t108 => (if t108 = true then (some 0) else (some 2))) else (some 2))) = some r := by rw [if_pos rfl] at H; exact H
    clear H
    have H := H1
    clear H1
    replace H := Option.bind_eq_some_iff.mp H
    obtain ⟨t107, A150, H⟩ := H
    replace H : (if t107 = true then ((planner_between.f aE 0 1073741824).bind fun t108 => (if t108 = true then (some 0) else (some 2))) else (some 2)) = some r := H
    have A15 := Aside0.mk A150
    clear A150
    by_cases c16 : t107 = true
    case neg =>
     replace c16 := Bool.eq_false_iff.mpr c16
     subst c16
     have H1 : (some 2) = some r := by rw [if_neg (show ¬ (false = true) by decide)] at H; exact H
     clear H
     have H := H1
     clear H1
     obtain rfl := Option.some.inj H
     have dB : wc.cell? ⟨aB, 0, none⟩ = some (.slice aH aC.length aI) := (blk_cell aA.out 0).trans rfl
     have dC : wc.cell? ⟨aB, 1, none⟩ = some (.slice aJ aD.length aK) := (blk_cell aA.out 1).trans rfl
     have dD : wc.cell? ⟨aB, 2, none⟩ = some (.int .i64 aG) := (blk_cell aA.out 2).trans rfl
     have dE : wc.cell? ⟨aB, 3, none⟩ = some (.int .i64 aF) := (blk_cell aA.out 3).trans rfl
     have dF : wc.cell? ⟨aB, 4, none⟩ = some (.int .i64 aE) := (blk_cell aA.out 4).trans rfl
     have dG := blk_frozen aA.out 0
     have dH := blk_frozen aA.out 1
     have dI := blk_frozen aA.out 2
     have dJ := blk_frozen aA.out 3
     have dK := blk_frozen aA.out 4
     go_wp2_with (first | ((with_reducible refine gate_callee (f := 41) rfl ?_); refine goesL_ (some 18) rfl rfl Try.func41 (by kernel_rfl) rfl #[.slice aH aC.length aI] rfl (by (try simp only [List.map_toArray, List.map_cons, List.map_nil]); first | done | rfl | (simp only [List.length_drop, List.length_take]; rfl)) ?_; (with_reducible refine (planner_sectors.calls _ _ aC true _ ?side1 ?side2 A9.out).mono ?_); (case side1 => exact qC aM.out HB.out); (case side2 => exact aN.out); rintro e w' ⟨rfl, ⟨nd, rfl⟩⟩; refine ⟨_, rfl, ?_⟩) | (go_at_call 41; (with_reducible refine (planner_sectors.calls _ _ aD true _ ?side1 ?side2 A11.out).mono ?_); (case side1 => repeat (first | exact (Kd.C_below aP.out (qW HB.out)) | (with_reducible refine Kd.C_alloc ?_ _) | (with_reducible refine Kd.C_drewN ?_ _) | (with_reducible refine Kd.C_drew ?_))); (case side2 => exact aQ.out); rintro e w' ⟨rfl, ⟨nd, rfl⟩⟩) | (go_at_call 40; (with_reducible refine (planner_between.calls aG 1 4096 true _ A13.out).mono ?_); rintro e w' ⟨rfl, ⟨nd, rfl⟩⟩) | (go_at_call 40; (with_reducible refine (planner_between.calls aF 0 1073741824 false _ A15.out).mono ?_); rintro e w' ⟨rfl, ⟨nd, rfl⟩⟩))
     go_ret
     exact ⟨by first | rfl | (simp [errW_none, errW_some] <;> rfl) | (simp [*, errW_none, errW_some] <;> rfl), by repeat (first | (with_reducible first | exact HB.out | apply below_alloc | apply pw_below_drewN | apply below_drew1 | refine below_set ?_ aL.out) | exact HB.out)⟩
    subst c16
    have H1 : ((planner_between.f aE 0 1073741824).bind fun t108 => (if t108 = true then (some 0) else (some 2))) = some r := by rw [if_pos rfl] at H; exact H
    clear H
    have H := H1
    clear H1
    replace H := Option.bind_eq_some_iff.mp H
    obtain ⟨t108, A170, H⟩ := H
    replace H : (if t108 = true then (some 0) else (some 2)) = some r := H
    have A17 := Aside0.mk A170
    clear A170
    by_cases c18 : t108 = true
    ·subst c18
     have H1 : (some 0) = some r := by rw [if_pos rfl] at H; exact H
     clear H
     have H := H1
     clear H1
     obtain rfl := Option.some.inj H
     have dL : wc.cell? ⟨aB, 0, none⟩ = some (.slice aH aC.length aI) := (blk_cell aA.out 0).trans rfl
     have dM : wc.cell? ⟨aB, 1, none⟩ = some (.slice aJ aD.length aK) := (blk_cell aA.out 1).trans rfl
     have dN : wc.cell? ⟨aB, 2, none⟩ = some (.int .i64 aG) := (blk_cell aA.out 2).trans rfl
     have dO : wc.cell? ⟨aB, 3, none⟩ = some (.int .i64 aF) := (blk_cell aA.out 3).trans rfl
     have dP : wc.cell? ⟨aB, 4, none⟩ = some (.int .i64 aE) := (blk_cell aA.out 4).trans rfl
     have dQ := blk_frozen aA.out 0
     have dR := blk_frozen aA.out 1
     have dS := blk_frozen aA.out 2
     have dT := blk_frozen aA.out 3
     have dU := blk_frozen aA.out 4
     go_wp2_with (first | ((with_reducible refine gate_callee (f := 41) rfl ?_); refine goesL_ (some 18) rfl rfl Try.func41 (by kernel_rfl) rfl #[.slice aH aC.length aI] rfl (by (try simp only [List.map_toArray, List.map_cons, List.map_nil]); first | done | rfl | (simp only [List.length_drop, List.length_take]; rfl)) ?_; (with_reducible refine (planner_sectors.calls _ _ aC true _ ?side1 ?side2 A9.out).mono ?_); (case side1 => exact qC aM.out HB.out); (case side2 => exact aN.out); rintro e w' ⟨rfl, ⟨nd, rfl⟩⟩; refine ⟨_, rfl, ?_⟩) | (go_at_call 41; (with_reducible refine (planner_sectors.calls _ _ aD true _ ?side1 ?side2 A11.out).mono ?_); (case side1 => repeat (first | exact (Kd.C_below aP.out (qW HB.out)) | (with_reducible refine Kd.C_alloc ?_ _) | (with_reducible refine Kd.C_drewN ?_ _) | (with_reducible refine Kd.C_drew ?_))); (case side2 => exact aQ.out); rintro e w' ⟨rfl, ⟨nd, rfl⟩⟩) | (go_at_call 40; (with_reducible refine (planner_between.calls aG 1 4096 true _ A13.out).mono ?_); rintro e w' ⟨rfl, ⟨nd, rfl⟩⟩) | (go_at_call 40; (with_reducible refine (planner_between.calls aF 0 1073741824 true _ A15.out).mono ?_); rintro e w' ⟨rfl, ⟨nd, rfl⟩⟩) | (go_at_call 40; (with_reducible refine (planner_between.calls aE 0 1073741824 true _ A17.out).mono ?_); rintro e w' ⟨rfl, ⟨nd, rfl⟩⟩))
     go_ret
     exact ⟨by first | rfl | (simp [errW_none, errW_some] <;> rfl) | (simp [*, errW_none, errW_some] <;> rfl), by repeat (first | (with_reducible first | exact HB.out | apply below_alloc | apply pw_below_drewN | apply below_drew1 | refine below_set ?_ aL.out) | exact HB.out)⟩
    ·replace c18 := Bool.eq_false_iff.mpr c18
     subst c18
     have H1 : (some 2) = some r := by rw [if_neg (show ¬ (false = true) by decide)] at H; exact H
     clear H
     have H := H1
     clear H1
     obtain rfl := Option.some.inj H
     have dV : wc.cell? ⟨aB, 0, none⟩ = some (.slice aH aC.length aI) := (blk_cell aA.out 0).trans rfl
     have dW : wc.cell? ⟨aB, 1, none⟩ = some (.slice aJ aD.length aK) := (blk_cell aA.out 1).trans rfl
     have dX : wc.cell? ⟨aB, 2, none⟩ = some (.int .i64 aG) := (blk_cell aA.out 2).trans rfl
     have dY : wc.cell? ⟨aB, 3, none⟩ = some (.int .i64 aF) := (blk_cell aA.out 3).trans rfl
     have dZ : wc.cell? ⟨aB, 4, none⟩ = some (.int .i64 aE) := (blk_cell aA.out 4).trans rfl
     have eA := blk_frozen aA.out 0
     have eB := blk_frozen aA.out 1
     have eC := blk_frozen aA.out 2
     have eD := blk_frozen aA.out 3
     have eE := blk_frozen aA.out 4
     go_wp2_with (first | ((with_reducible refine gate_callee (f := 41) rfl ?_); refine goesL_ (some 18) rfl rfl Try.func41 (by kernel_rfl) rfl #[.slice aH aC.length aI] rfl (by (try simp only [List.map_toArray, List.map_cons, List.map_nil]); first | done | rfl | (simp only [List.length_drop, List.length_take]; rfl)) ?_; (with_reducible refine (planner_sectors.calls _ _ aC true _ ?side1 ?side2 A9.out).mono ?_); (case side1 => exact qC aM.out HB.out); (case side2 => exact aN.out); rintro e w' ⟨rfl, ⟨nd, rfl⟩⟩; refine ⟨_, rfl, ?_⟩) | (go_at_call 41; (with_reducible refine (planner_sectors.calls _ _ aD true _ ?side1 ?side2 A11.out).mono ?_); (case side1 => repeat (first | exact (Kd.C_below aP.out (qW HB.out)) | (with_reducible refine Kd.C_alloc ?_ _) | (with_reducible refine Kd.C_drewN ?_ _) | (with_reducible refine Kd.C_drew ?_))); (case side2 => exact aQ.out); rintro e w' ⟨rfl, ⟨nd, rfl⟩⟩) | (go_at_call 40; (with_reducible refine (planner_between.calls aG 1 4096 true _ A13.out).mono ?_); rintro e w' ⟨rfl, ⟨nd, rfl⟩⟩) | (go_at_call 40; (with_reducible refine (planner_between.calls aF 0 1073741824 true _ A15.out).mono ?_); rintro e w' ⟨rfl, ⟨nd, rfl⟩⟩) | (go_at_call 40; (with_reducible refine (planner_between.calls aE 0 1073741824 false _ A17.out).mono ?_); rintro e w' ⟨rfl, ⟨nd, rfl⟩⟩))
     go_ret
     exact ⟨by first | rfl | (simp [errW_none, errW_some] <;> rfl) | (simp [*, errW_none, errW_some] <;> rfl), by repeat (first | (with_reducible first | exact HB.out | apply below_alloc | apply pw_below_drewN | apply below_drew1 | refine below_set ?_ aL.out) | exact HB.out)⟩
end Go.Proofs.Ytcflacjidabppaa.Pr

-- Written by pp.py, a program of this session, over the translation of the given program; a machine's text: Lean checks it.
import Derived.Test.YtcflacjidabppaaGShort
namespace Go.Proofs.Ytcflacjidabppaa.Pr
open Go.RowKit Go.Proofs.YtcflacjidabppaaW.PrintWords Go.Proofs.YtcflacjidabppaaW.PrintLast Go.Proofs.YtcflacjidabppaaW.PrintMore
attribute [local go_sem] max2_int min2_int max_two min_two max_three min_three max_four min_four   -- for this text's walks alone
set_option linter.unusedVariables false
set_option linter.unusedSimpArgs false

/-! ### standbyref56_Check: function 16 -/
mutual
def standbyref56_Check.j0 : Nat → Bool → List Int → List Int → Int → Int → Int → Option (Int)
 | 0, _, _, _, _, _, _ => none
 | k + 1, x20, aQ, aR, aS, aT, aU => if x20 = true then (some 6) else (standbyref56_Check.l0 k 0 aQ aR aS aT aU)
def standbyref56_Check.l0 : Nat → Int → List Int → List Int → Int → Int → Int → Option (Int)
 | 0, _, _, _, _, _, _ => none
 | k + 1, x3, aQ, aR, aS, aT, aU => if x3 < (aQ.length : Int) then (if 0 ≤ x3 then (if (rd aQ x3) < 0 then (some 2) else (if (rd aQ x3) > 4096 then (some 2) else (standbyref56_Check.l0 k (wrap64 (x3 + 1)) aQ aR aS aT aU))) else (none)) else (standbyref56_Check.l1 k 0 aQ aR aS aT aU)
def standbyref56_Check.l1 : Nat → Int → List Int → List Int → Int → Int → Int → Option (Int)
 | 0, _, _, _, _, _, _ => none
 | k + 1, x4, aQ, aR, aS, aT, aU => if x4 < (aR.length : Int) then (if 0 ≤ x4 then (if (rd aR x4) < 0 then (some 2) else (if (rd aR x4) > 4096 then (some 2) else (standbyref56_Check.l1 k (wrap64 (x4 + 1)) aQ aR aS aT aU))) else (none)) else (if aS < 1 then (some 2) else (if aS > 4096 then (some 2) else (if aT < 0 then (some 2) else (if aT > 1073741824 then (some 2) else (if aU < 0 then (some 2) else (if aU > 1073741824 then (some 2) else (some 0)))))))
end
def standbyref56_Check.f (k : Nat) (aD : List Int) (aC : List Int) (aE : Int) (aF : Int) (aG : Int) : Option (Int) := if (aD.length : Int) > 4096 then (standbyref56_Check.j0 k true aD aC aE aF aG) else (if (aC.length : Int) < 1 then (standbyref56_Check.j0 k true aD aC aE aF aG) else (standbyref56_Check.j0 k (decide ((aC.length : Int) > 4096)) aD aC aE aF aG))
theorem standbyref56_Check.mono_l : ∀ k, (∀ y0 y1 y2 y3 y4 y5, LeO (standbyref56_Check.j0 k y0 y1 y2 y3 y4 y5) (standbyref56_Check.j0 (k + 1) y0 y1 y2 y3 y4 y5)) ∧ (∀ y0 y1 y2 y3 y4 y5, LeO (standbyref56_Check.l0 k y0 y1 y2 y3 y4 y5) (standbyref56_Check.l0 (k + 1) y0 y1 y2 y3 y4 y5)) ∧ (∀ y0 y1 y2 y3 y4 y5, LeO (standbyref56_Check.l1 k y0 y1 y2 y3 y4 y5) (standbyref56_Check.l1 (k + 1) y0 y1 y2 y3 y4 y5))
 | 0 => ⟨fun _ _ _ _ _ _ r h => by simp [standbyref56_Check.j0] at h, fun _ _ _ _ _ _ r h => by simp [standbyref56_Check.l0] at h, fun _ _ _ _ _ _ r h => by simp [standbyref56_Check.l1] at h⟩
 | k + 1 => by
  obtain ⟨ih0, ih1, ih2⟩ := standbyref56_Check.mono_l k
  refine ⟨?_, ?_, ?_⟩
  ·intro y0 y1 y2 y3 y4 y5
   unfold standbyref56_Check.j0
   repeat' first
   | (with_reducible exact ih0 _ _ _ _ _ _)
   | (with_reducible exact ih1 _ _ _ _ _ _)
   | (with_reducible exact ih2 _ _ _ _ _ _)
   | (with_reducible exact LeO.refl _)
   | (with_reducible exact LeO.none _)
   | (with_reducible refine LeO.ite ?_ ?_)
   | (with_reducible refine LeO.bind ?_ (fun _ => ?_))
   | exact ih0 _ _ _ _ _ _
   | exact ih1 _ _ _ _ _ _
   | exact ih2 _ _ _ _ _ _
   | exact LeO.none _
   | refine LeO.ite ?_ ?_
   | refine LeO.bind ?_ (fun _ => ?_)
  ·intro y0 y1 y2 y3 y4 y5
   unfold standbyref56_Check.l0
   repeat' first
   | (with_reducible exact ih0 _ _ _ _ _ _)
   | (with_reducible exact ih1 _ _ _ _ _ _)
   | (with_reducible exact ih2 _ _ _ _ _ _)
   | (with_reducible exact LeO.refl _)
   | (with_reducible exact LeO.none _)
   | (with_reducible refine LeO.ite ?_ ?_)
   | (with_reducible refine LeO.bind ?_ (fun _ => ?_))
   | exact ih0 _ _ _ _ _ _
   | exact ih1 _ _ _ _ _ _
   | exact ih2 _ _ _ _ _ _
   | exact LeO.none _
   | refine LeO.ite ?_ ?_
   | refine LeO.bind ?_ (fun _ => ?_)
  ·intro y0 y1 y2 y3 y4 y5
   unfold standbyref56_Check.l1
   repeat' first
   | (with_reducible exact ih0 _ _ _ _ _ _)
   | (with_reducible exact ih1 _ _ _ _ _ _)
   | (with_reducible exact ih2 _ _ _ _ _ _)
   | (with_reducible exact LeO.refl _)
   | (with_reducible exact LeO.none _)
   | (with_reducible refine LeO.ite ?_ ?_)
   | (with_reducible refine LeO.bind ?_ (fun _ => ?_))
   | exact ih0 _ _ _ _ _ _
   | exact ih1 _ _ _ _ _ _
   | exact ih2 _ _ _ _ _ _
   | exact LeO.none _
   | refine LeO.ite ?_ ?_
   | refine LeO.bind ?_ (fun _ => ?_)
theorem standbyref56_Check.mono : ∀ a0 a1 a2 a3 a4 k, LeO (standbyref56_Check.f k a0 a1 a2 a3 a4) (standbyref56_Check.f (k + 1) a0 a1 a2 a3 a4) := by
 intro a0 a1 a2 a3 a4 k
 obtain ⟨ih0, ih1, ih2⟩ := standbyref56_Check.mono_l k
 unfold standbyref56_Check.f
 repeat' first
   | (with_reducible exact ih0 _ _ _ _ _ _)
   | (with_reducible exact ih1 _ _ _ _ _ _)
   | (with_reducible exact ih2 _ _ _ _ _ _)
   | (with_reducible exact LeO.refl _)
   | (with_reducible exact LeO.none _)
   | (with_reducible refine LeO.ite ?_ ?_)
   | (with_reducible refine LeO.bind ?_ (fun _ => ?_))
   | exact ih0 _ _ _ _ _ _
   | exact ih1 _ _ _ _ _ _
   | exact ih2 _ _ _ _ _ _
   | exact LeO.none _
   | refine LeO.ite ?_ ?_
   | refine LeO.bind ?_ (fun _ => ?_)
set_option maxHeartbeats 8000000 in
set_option maxRecDepth 100000 in
theorem standbyref56_Check.calls (k : Nat) (aJ : Option Addr) (aK : Nat) (aD : List Int) (aL : Option Addr) (aM : Nat) (aC : List Int) (aE : Int) (aF : Int) (aG : Int) (r : Int) (w : World) (cI : Kd.C (Kd.int .i64) w aJ aD.length aD) (cJ : aD.length ≤ aK) (cK : Kd.C (Kd.int .i64) w aL aC.length aC) (cL : aC.length ≤ aM) (h : standbyref56_Check.f k aD aC aE aF aG = some r) :
  Calls Try.prog 16 #[.agg #[.slice aJ aD.length aK, .slice aL aC.length aM, .int .i64 aE, .int .i64 aF, .int .i64 aG]] w fun e w' => e = .returned (.int .i64 r) ∧ Below w.heap.size w w' := by
 have hu24 := Try.underlying24
 have aY := Aside0.mk cI
 have eN := Aside0.mk cJ
 clear cI cJ
 have aZ := Aside0.mk cK
 have eO := Aside0.mk cL
 clear cK cL
 have HB := Aside0.mk (Below.refl w.heap.size w)
 have H : (if (aD.length : Int) > 4096 then (standbyref56_Check.j0 k true aD aC aE aF aG) else (if (aC.length : Int) < 1 then (standbyref56_Check.j0 k true aD aC aE aF aG) else (standbyref56_Check.j0 k (decide ((aC.length : Int) > 4096)) aD aC aE aF aG))) = some r := h
 clear h
 have HC2 := Aside0.mk H
 clear H
 go_enter Try.func16, Try.ntmps16
 go_upto_region 1 with (first | ((with_reducible refine gate_dst (N := 1) rfl ?_); (try (refine gate_guard (by rfl) ?_; dsimp only)); refine box_event ?hg (N := 1) ?hd (cs := #[.slice aJ aD.length aK, .slice aL aC.length aM, .int .i64 aE, .int .i64 aF, .int .i64 aG]) (t := 24) ?hr ?_; (case hd => rfl); (case hg => rfl); (case hr => first | (go_simp; done) | (go_simp; rfl)); intro aB hg w3 hbox hb; have n0_ := Aside0.mk (below_step (qW HB.out) hb); have n1_ := Aside0.mk (hbox); have n2_ := Aside0.mk ((by rw [hg]; exact (below_size (qW HB.out)) : w.heap.size ≤ aB)); have n3_ := Aside0.mk ((by rw [hg]; exact (below_size (qW HB.out)) : w.heap.size ≤ aB)); clear HB; have HB := n0_; have aA := n1_; have eP := n2_; have aN := n3_; clear n0_ n1_ n2_ n3_ hb hbox hg))
 (try simp only [Act.put, List.setIfInBounds_toArray, List.set_cons_zero, List.set_cons_succ])
 go_cut [20] (fun v20 wc => ∃ (kq : Nat) (bA : Bool), v20 = .bool bA ∧ Aside0 (standbyref56_Check.j0 kq bA aD aC aE aF aG = some r) ∧ Aside0 (kq ≤ k) ∧ Aside0 (wc.heap[aB]? = some (.cells #[(.slice aJ aD.length aK), (.slice aL aC.length aM), .int .i64 aE, .int .i64 aF, .int .i64 aG] 24 (0, 0))) ∧ Aside0 (Below w.heap.size w wc))
 case first =>
  have H := HC2.out
  clear HC2
  by_cases c4 : (aD.length : Int) > 4096
  ·rw [if_pos c4] at H
   have aV : decide (4096 < (aD.length : Int)) = true := decide_eq_true c4
   have bB : decide (4096 < aD.length) = true := decide_eq_true (by omega)
   clear c4
   (first | rw [aV] | (simp only [i64_w, i32_w]; rw [aV]) | skip)
   have H' := Aside0.mk H
   clear H
   have bE : w3.cell? ⟨aB, 0, none⟩ = some (.slice aJ aD.length aK) := (blk_cell aA.out 0).trans rfl
   have bF : w3.cell? ⟨aB, 1, none⟩ = some (.slice aL aC.length aM) := (blk_cell aA.out 1).trans rfl
   have bG : w3.cell? ⟨aB, 2, none⟩ = some (.int .i64 aE) := (blk_cell aA.out 2).trans rfl
   have bH : w3.cell? ⟨aB, 3, none⟩ = some (.int .i64 aF) := (blk_cell aA.out 3).trans rfl
   have bI : w3.cell? ⟨aB, 4, none⟩ = some (.int .i64 aG) := (blk_cell aA.out 4).trans rfl
   have bJ := blk_frozen aA.out 0
   have bK := blk_frozen aA.out 1
   have bL := blk_frozen aA.out 2
   have bM := blk_frozen aA.out 3
   have bN := blk_frozen aA.out 4
   go_wp2
   go_meet
   case rel => exact ⟨_, (true), (by first | rfl | (simp; done) | (simp [*]; done)), H', ⟨by first | omega | exact Nat.le_refl _⟩, ⟨by exact qB aA.out⟩, ⟨by repeat (first | (with_reducible first | exact HB.out | apply below_alloc | apply pw_below_drewN | apply below_drew1 | refine below_set ?_ aN.out) | exact HB.out)⟩⟩
  ·rw [if_neg c4] at H
   have aV : decide (4096 < (aD.length : Int)) = false := decide_eq_false c4
   have bB : decide (4096 < aD.length) = false := decide_eq_false (by omega)
   clear c4
   (first | rw [aV] | (simp only [i64_w, i32_w]; rw [aV]) | skip)
   by_cases c6 : (aC.length : Int) < 1
   ·rw [if_pos c6] at H
    have bC : decide ((aC.length : Int) < 1) = true := decide_eq_true c6
    have bD : decide (aC.length < 1) = true := decide_eq_true (by omega)
    clear c6
    have H' := Aside0.mk H
    clear H
    have bO : w3.cell? ⟨aB, 0, none⟩ = some (.slice aJ aD.length aK) := (blk_cell aA.out 0).trans rfl
    have bP : w3.cell? ⟨aB, 1, none⟩ = some (.slice aL aC.length aM) := (blk_cell aA.out 1).trans rfl
    have bQ : w3.cell? ⟨aB, 2, none⟩ = some (.int .i64 aE) := (blk_cell aA.out 2).trans rfl
    have bR : w3.cell? ⟨aB, 3, none⟩ = some (.int .i64 aF) := (blk_cell aA.out 3).trans rfl
    have bS : w3.cell? ⟨aB, 4, none⟩ = some (.int .i64 aG) := (blk_cell aA.out 4).trans rfl
    have bT := blk_frozen aA.out 0
    have bU := blk_frozen aA.out 1
    have bV := blk_frozen aA.out 2
    have bW := blk_frozen aA.out 3
    have bX := blk_frozen aA.out 4
    go_wp2
    go_meet
    case rel => exact ⟨_, (true), (by first | rfl | (simp; done) | (simp [*]; done)), H', ⟨by first | omega | exact Nat.le_refl _⟩, ⟨by exact qB aA.out⟩, ⟨by repeat (first | (with_reducible first | exact HB.out | apply below_alloc | apply pw_below_drewN | apply below_drew1 | refine below_set ?_ aN.out) | exact HB.out)⟩⟩
   ·rw [if_neg c6] at H
    have bC : decide ((aC.length : Int) < 1) = false := decide_eq_false c6
    have bD : decide (aC.length < 1) = false := decide_eq_false (by omega)
    clear c6
    have H' := Aside0.mk H
    clear H
    have bY : w3.cell? ⟨aB, 0, none⟩ = some (.slice aJ aD.length aK) := (blk_cell aA.out 0).trans rfl
    have bZ : w3.cell? ⟨aB, 1, none⟩ = some (.slice aL aC.length aM) := (blk_cell aA.out 1).trans rfl
    have cA : w3.cell? ⟨aB, 2, none⟩ = some (.int .i64 aE) := (blk_cell aA.out 2).trans rfl
    have cB : w3.cell? ⟨aB, 3, none⟩ = some (.int .i64 aF) := (blk_cell aA.out 3).trans rfl
    have cC : w3.cell? ⟨aB, 4, none⟩ = some (.int .i64 aG) := (blk_cell aA.out 4).trans rfl
    have cD := blk_frozen aA.out 0
    have cE := blk_frozen aA.out 1
    have cF := blk_frozen aA.out 2
    have cG := blk_frozen aA.out 3
    have cH := blk_frozen aA.out 4
    go_wp2
    go_meet
    case rel => exact ⟨_, (decide ((aC.length : Int) > 4096)), (by first | rfl | (simp; done) | (simp [*]; done)), H', ⟨by first | omega | exact Nat.le_refl _⟩, ⟨by exact qB aA.out⟩, ⟨by repeat (first | (with_reducible first | exact HB.out | apply below_alloc | apply pw_below_drewN | apply below_drew1 | refine below_set ?_ aN.out) | exact HB.out)⟩⟩
 case rest =>
  clear HC2
  try clear c1
  try clear p2
  try clear c4
  try clear aV
  try clear bB
  try clear c6
  try clear bC
  try clear bD
  try clear bE
  try clear bF
  try clear bG
  try clear bH
  try clear bI
  try clear bO
  try clear bP
  try clear bQ
  try clear bR
  try clear bS
  try clear bY
  try clear bZ
  try clear cA
  try clear cB
  try clear cC
  try clear bJ
  try clear bK
  try clear bL
  try clear bM
  try clear bN
  try clear bT
  try clear bU
  try clear bV
  try clear bW
  try clear bX
  try clear cD
  try clear cE
  try clear cF
  try clear cG
  try clear cH
  obtain ⟨kq, bA, rfl, HA, HJ1, aA, HB⟩ := hcut
  cases kq with
  | zero => exact absurd HA.out (by simp [standbyref56_Check.j0])
  | succ kj1 =>
   have H := HA.out
   clear HA
   simp only [standbyref56_Check.j0] at H
   by_cases c9 : bA = true
   ·subst c9
    have H1 : (some 6) = some r := by rw [if_pos rfl] at H; exact H
    clear H
    have H := H1
    clear H1
    obtain rfl := Option.some.inj H
    go_wp2
    go_ret
    exact ⟨by first | rfl | (simp [errW_none, errW_some] <;> rfl) | (simp [*, errW_none, errW_some] <;> rfl), by repeat (first | (with_reducible first | exact HB.out | apply below_alloc | apply pw_below_drewN | apply below_drew1 | refine below_set ?_ aN.out) | exact HB.out)⟩
   ·replace c9 := Bool.eq_false_iff.mpr c9
    subst c9
    have H1 : (standbyref56_Check.l0 kj1 0 aD aC aE aF aG) = some r := by rw [if_neg (show ¬ (false = true) by decide)] at H; exact H
    clear H
    have H := H1
    clear H1
    have H' := Aside0.mk H
    clear H
    go_wp2
    go_loopg [3] kj1 (fun kq v3 w' => ∃ (aH : Int), v3 = .int .i64 aH ∧ Aside0 (standbyref56_Check.l0 kq aH aD aC aE aF aG = some r) ∧ Aside0 (kq ≤ kj1) ∧ Aside0 (w'.heap[aB]? = some (.cells #[(.slice aJ aD.length aK), (.slice aL aC.length aM), .int .i64 aE, .int .i64 aF, .int .i64 aG] 24 (0, 0))) ∧ Aside0 (Below w.heap.size w w'))
    case atStart => exact ⟨(0), (by first | rfl | (simp; done) | (simp [*]; done)), H', ⟨Nat.le_refl _⟩, ⟨by exact qB aA.out⟩, ⟨by repeat (first | (with_reducible first | exact HB.out | apply below_alloc | apply pw_below_drewN | apply below_drew1 | refine below_set ?_ aN.out) | exact HB.out)⟩⟩
    case round =>
     clear H'
     try clear c1
     try clear p2
     try clear c4
     try clear aV
     try clear bB
     try clear c6
     try clear bC
     try clear bD
     try clear c9
     try clear bE
     try clear bF
     try clear bG
     try clear bH
     try clear bI
     try clear bO
     try clear bP
     try clear bQ
     try clear bR
     try clear bS
     try clear bY
     try clear bZ
     try clear cA
     try clear cB
     try clear cC
     try clear bJ
     try clear bK
     try clear bL
     try clear bM
     try clear bN
     try clear bT
     try clear bU
     try clear bV
     try clear bW
     try clear bX
     try clear cD
     try clear cE
     try clear cF
     try clear cG
     try clear cH
     try clear p2
     obtain ⟨aH, rfl, HA, HK2, aA, HB⟩ := hrel
     cases gk with
     | zero => exact absurd HA.out (by simp [standbyref56_Check.l0])
     | succ k2 =>
      have H := HA.out
      clear HA
      simp only [standbyref56_Check.l0] at H
      by_cases c10 : aH < (aD.length : Int)
      ·rw [if_pos c10] at H
       have cM : decide (aH < (aD.length : Int)) = true := decide_eq_true c10
       clear c10
       by_cases c11 : 0 ≤ aH
       case neg =>
        rw [if_neg c11] at H
        exact absurd H (by simp)
       rw [if_pos c11] at H
       have cP : decide (0 ≤ aH) = true := decide_eq_true c11
       clear c11
       by_cases c12 : (rd aD aH) < 0
       ·rw [if_pos c12] at H
        have cN : decide ((rd aD aH) < 0) = true := decide_eq_true c12
        clear c12
        obtain rfl := Option.some.inj H
        have cQ : wr.cell? ⟨aB, 0, none⟩ = some (.slice aJ aD.length aK) := (blk_cell aA.out 0).trans rfl
        have cR : wr.cell? ⟨aB, 1, none⟩ = some (.slice aL aC.length aM) := (blk_cell aA.out 1).trans rfl
        have cS : wr.cell? ⟨aB, 2, none⟩ = some (.int .i64 aE) := (blk_cell aA.out 2).trans rfl
        have cT : wr.cell? ⟨aB, 3, none⟩ = some (.int .i64 aF) := (blk_cell aA.out 3).trans rfl
        have cU : wr.cell? ⟨aB, 4, none⟩ = some (.int .i64 aG) := (blk_cell aA.out 4).trans rfl
        have cV := blk_frozen aA.out 0
        have cW := blk_frozen aA.out 1
        have cX := blk_frozen aA.out 2
        have cY := blk_frozen aA.out 3
        have cZ := blk_frozen aA.out 4
        have p173 : 0 ≤ (aH : Int) := of_decide_eq_true (by first | (with_reducible assumption) | assumption)
        have q173 : aH < (aD.length : Int) := of_decide_eq_true (by first | (with_reducible assumption) | assumption)
        obtain ⟨ad173, e173, aO⟩ := Kd.at_int aY.out aH p173 q173
        cases e173
        replace aO := (HB.out.cell (World.block_lt_of_cell? w _ aO)).trans aO
        replace p173 := eq_true p173
        replace q173 := eq_true q173
        go_wp2
        go_ret
        exact ⟨by first | rfl | (simp [errW_none, errW_some] <;> rfl) | (simp [*, errW_none, errW_some] <;> rfl), by repeat (first | (with_reducible first | exact HB.out | apply below_alloc | apply pw_below_drewN | apply below_drew1 | refine below_set ?_ aN.out) | exact HB.out)⟩
       ·rw [if_neg c12] at H
        have cN : decide ((rd aD aH) < 0) = false := decide_eq_false c12
        clear c12
        by_cases c14 : (rd aD aH) > 4096
        ·rw [if_pos c14] at H
         have cO : decide (4096 < (rd aD aH)) = true := decide_eq_true c14
         clear c14
         obtain rfl := Option.some.inj H
         have dA : wr.cell? ⟨aB, 0, none⟩ = some (.slice aJ aD.length aK) := (blk_cell aA.out 0).trans rfl
         have dB : wr.cell? ⟨aB, 1, none⟩ = some (.slice aL aC.length aM) := (blk_cell aA.out 1).trans rfl
         have dC : wr.cell? ⟨aB, 2, none⟩ = some (.int .i64 aE) := (blk_cell aA.out 2).trans rfl
         have dD : wr.cell? ⟨aB, 3, none⟩ = some (.int .i64 aF) := (blk_cell aA.out 3).trans rfl
         have dE : wr.cell? ⟨aB, 4, none⟩ = some (.int .i64 aG) := (blk_cell aA.out 4).trans rfl
         have dF := blk_frozen aA.out 0
         have dG := blk_frozen aA.out 1
         have dH := blk_frozen aA.out 2
         have dI := blk_frozen aA.out 3
         have dJ := blk_frozen aA.out 4
         have p173 : 0 ≤ (aH : Int) := of_decide_eq_true (by first | (with_reducible assumption) | assumption)
         have q173 : aH < (aD.length : Int) := of_decide_eq_true (by first | (with_reducible assumption) | assumption)
         obtain ⟨ad173, e173, aO⟩ := Kd.at_int aY.out aH p173 q173
         cases e173
         replace aO := (HB.out.cell (World.block_lt_of_cell? w _ aO)).trans aO
         replace p173 := eq_true p173
         replace q173 := eq_true q173
         have p174 : 0 ≤ (aH : Int) := of_decide_eq_true (by first | (with_reducible assumption) | assumption)
         have q174 : aH < (aD.length : Int) := of_decide_eq_true (by first | (with_reducible assumption) | assumption)
         obtain ⟨ad174, e174, aW⟩ := Kd.at_int aY.out aH p174 q174
         obtain rfl : ad173 = ad174 := (by injection e174)
         replace aW := (HB.out.cell (World.block_lt_of_cell? w _ aW)).trans aW
         replace p174 := eq_true p174
         replace q174 := eq_true q174
         go_wp2
         go_ret
         exact ⟨by first | rfl | (simp [errW_none, errW_some] <;> rfl) | (simp [*, errW_none, errW_some] <;> rfl), by repeat (first | (with_reducible first | exact HB.out | apply below_alloc | apply pw_below_drewN | apply below_drew1 | refine below_set ?_ aN.out) | exact HB.out)⟩
        ·rw [if_neg c14] at H
         have cO : decide (4096 < (rd aD aH)) = false := decide_eq_false c14
         clear c14
         have H' := Aside0.mk H
         clear H
         have dK : wr.cell? ⟨aB, 0, none⟩ = some (.slice aJ aD.length aK) := (blk_cell aA.out 0).trans rfl
         have dL : wr.cell? ⟨aB, 1, none⟩ = some (.slice aL aC.length aM) := (blk_cell aA.out 1).trans rfl
         have dM : wr.cell? ⟨aB, 2, none⟩ = some (.int .i64 aE) := (blk_cell aA.out 2).trans rfl
         have dN : wr.cell? ⟨aB, 3, none⟩ = some (.int .i64 aF) := (blk_cell aA.out 3).trans rfl
         have dO : wr.cell? ⟨aB, 4, none⟩ = some (.int .i64 aG) := (blk_cell aA.out 4).trans rfl
         have dP := blk_frozen aA.out 0
         have dQ := blk_frozen aA.out 1
         have dR := blk_frozen aA.out 2
         have dS := blk_frozen aA.out 3
         have dT := blk_frozen aA.out 4
         have p173 : 0 ≤ (aH : Int) := of_decide_eq_true (by first | (with_reducible assumption) | assumption)
         have q173 : aH < (aD.length : Int) := of_decide_eq_true (by first | (with_reducible assumption) | assumption)
         obtain ⟨ad173, e173, aO⟩ := Kd.at_int aY.out aH p173 q173
         cases e173
         replace aO := (HB.out.cell (World.block_lt_of_cell? w _ aO)).trans aO
         replace p173 := eq_true p173
         replace q173 := eq_true q173
         have p174 : 0 ≤ (aH : Int) := of_decide_eq_true (by first | (with_reducible assumption) | assumption)
         have q174 : aH < (aD.length : Int) := of_decide_eq_true (by first | (with_reducible assumption) | assumption)
         obtain ⟨ad174, e174, aW⟩ := Kd.at_int aY.out aH p174 q174
         obtain rfl : ad173 = ad174 := (by injection e174)
         replace aW := (HB.out.cell (World.block_lt_of_cell? w _ aW)).trans aW
         replace p174 := eq_true p174
         replace q174 := eq_true q174
         go_wp2
         go_roundg k2
         case measure => have := HJ1.out; have := HK2.out; omega
         case rel => exact ⟨(wrap64 (aH + 1)), (by first | rfl | (simp; done) | (simp [*]; done)), H', ⟨by have := HJ1.out; have := HK2.out; omega⟩, ⟨by exact qB aA.out⟩, ⟨by repeat (first | (with_reducible first | exact HB.out | apply below_alloc | apply pw_below_drewN | apply below_drew1 | refine below_set ?_ aN.out) | exact HB.out)⟩⟩
      ·rw [if_neg c10] at H
       have cM : decide (aH < (aD.length : Int)) = false := decide_eq_false c10
       clear c10
       have H' := Aside0.mk H
       clear H
       have dU : wr.cell? ⟨aB, 0, none⟩ = some (.slice aJ aD.length aK) := (blk_cell aA.out 0).trans rfl
       have dV : wr.cell? ⟨aB, 1, none⟩ = some (.slice aL aC.length aM) := (blk_cell aA.out 1).trans rfl
       have dW : wr.cell? ⟨aB, 2, none⟩ = some (.int .i64 aE) := (blk_cell aA.out 2).trans rfl
       have dX : wr.cell? ⟨aB, 3, none⟩ = some (.int .i64 aF) := (blk_cell aA.out 3).trans rfl
       have dY : wr.cell? ⟨aB, 4, none⟩ = some (.int .i64 aG) := (blk_cell aA.out 4).trans rfl
       have dZ := blk_frozen aA.out 0
       have eA := blk_frozen aA.out 1
       have eB := blk_frozen aA.out 2
       have eC := blk_frozen aA.out 3
       have eD := blk_frozen aA.out 4
       go_wp2
       go_loopg [4] k2 (fun kq v4 w' => ∃ (aI : Int), v4 = .int .i64 aI ∧ Aside0 (standbyref56_Check.l1 kq aI aD aC aE aF aG = some r) ∧ Aside0 (kq ≤ k2) ∧ Aside0 (w'.heap[aB]? = some (.cells #[(.slice aJ aD.length aK), (.slice aL aC.length aM), .int .i64 aE, .int .i64 aF, .int .i64 aG] 24 (0, 0))) ∧ Aside0 (Below w.heap.size w w'))
       case atStart => exact ⟨(0), (by first | rfl | (simp; done) | (simp [*]; done)), H', ⟨Nat.le_refl _⟩, ⟨by exact qB aA.out⟩, ⟨by repeat (first | (with_reducible first | exact HB.out | apply below_alloc | apply pw_below_drewN | apply below_drew1 | refine below_set ?_ aN.out) | exact HB.out)⟩⟩
       case round =>
        clear H'
        try clear c1
        try clear p1
        try clear q1
        try clear hx1
        try clear p2
        try clear c4
        try clear aV
        try clear bB
        try clear c6
        try clear bC
        try clear bD
        try clear p6
        try clear c9
        try clear c10
        try clear cM
        try clear c11
        try clear cP
        try clear c12
        try clear cN
        try clear c14
        try clear cO
        try clear c16
        try clear p17
        try clear q17
        try clear hx17
        try clear cQ
        try clear cR
        try clear cS
        try clear cT
        try clear cU
        try clear dA
        try clear dB
        try clear dC
        try clear dD
        try clear dE
        try clear dK
        try clear dL
        try clear dM
        try clear dN
        try clear dO
        try clear dU
        try clear dV
        try clear dW
        try clear dX
        try clear dY
        try clear bE
        try clear bF
        try clear bG
        try clear bH
        try clear bI
        try clear bO
        try clear bP
        try clear bQ
        try clear bR
        try clear bS
        try clear bY
        try clear bZ
        try clear cA
        try clear cB
        try clear cC
        try clear cV
        try clear cW
        try clear cX
        try clear cY
        try clear cZ
        try clear dF
        try clear dG
        try clear dH
        try clear dI
        try clear dJ
        try clear dP
        try clear dQ
        try clear dR
        try clear dS
        try clear dT
        try clear dZ
        try clear eA
        try clear eB
        try clear eC
        try clear eD
        try clear bJ
        try clear bK
        try clear bL
        try clear bM
        try clear bN
        try clear bT
        try clear bU
        try clear bV
        try clear bW
        try clear bX
        try clear cD
        try clear cE
        try clear cF
        try clear cG
        try clear cH
        try clear aO
        try clear aW
        try clear p173
        try clear p174
        try clear p2
        try clear q173
        try clear q174
        obtain ⟨aI, rfl, HA, HK3, aA, HB⟩ := hrel
        cases gk with
        | zero => exact absurd HA.out (by simp [standbyref56_Check.l1])
        | succ k3 =>
         have H := HA.out
         clear HA
         simp only [standbyref56_Check.l1] at H
         by_cases c18 : aI < (aC.length : Int)
         ·rw [if_pos c18] at H
          have eE : decide (aI < (aC.length : Int)) = true := decide_eq_true c18
          clear c18
          by_cases c19 : 0 ≤ aI
          case neg =>
           rw [if_neg c19] at H
           exact absurd H (by simp)
          rw [if_pos c19] at H
          have eQ : decide (0 ≤ aI) = true := decide_eq_true c19
          clear c19
          by_cases c20 : (rd aC aI) < 0
          ·rw [if_pos c20] at H
           have eF : decide ((rd aC aI) < 0) = true := decide_eq_true c20
           clear c20
           obtain rfl := Option.some.inj H
           have eR : wr.cell? ⟨aB, 0, none⟩ = some (.slice aJ aD.length aK) := (blk_cell aA.out 0).trans rfl
           have eS : wr.cell? ⟨aB, 1, none⟩ = some (.slice aL aC.length aM) := (blk_cell aA.out 1).trans rfl
           have eT : wr.cell? ⟨aB, 2, none⟩ = some (.int .i64 aE) := (blk_cell aA.out 2).trans rfl
           have eU : wr.cell? ⟨aB, 3, none⟩ = some (.int .i64 aF) := (blk_cell aA.out 3).trans rfl
           have eV : wr.cell? ⟨aB, 4, none⟩ = some (.int .i64 aG) := (blk_cell aA.out 4).trans rfl
           have eW := blk_frozen aA.out 0
           have eX := blk_frozen aA.out 1
           have eY := blk_frozen aA.out 2
           have eZ := blk_frozen aA.out 3
           have fA := blk_frozen aA.out 4
           have p175 : 0 ≤ (aI : Int) := of_decide_eq_true (by first | (with_reducible assumption) | assumption)
           have q175 : aI < (aC.length : Int) := of_decide_eq_true (by first | (with_reducible assumption) | assumption)
           obtain ⟨ad175, e175, aP⟩ := Kd.at_int aZ.out aI p175 q175
           cases e175
           replace aP := (HB.out.cell (World.block_lt_of_cell? w _ aP)).trans aP
           replace p175 := eq_true p175
           replace q175 := eq_true q175
           go_wp2
           go_ret
           exact ⟨by first | rfl | (simp [errW_none, errW_some] <;> rfl) | (simp [*, errW_none, errW_some] <;> rfl), by repeat (first | (with_reducible first | exact HB.out | apply below_alloc | apply pw_below_drewN | apply below_drew1 | refine below_set ?_ aN.out) | exact HB.out)⟩
          ·rw [if_neg c20] at H
           have eF : decide ((rd aC aI) < 0) = false := decide_eq_false c20
           clear c20
           by_cases c22 : (rd aC aI) > 4096
           ·rw [if_pos c22] at H
            have eG : decide (4096 < (rd aC aI)) = true := decide_eq_true c22
            clear c22
            obtain rfl := Option.some.inj H
            have fB : wr.cell? ⟨aB, 0, none⟩ = some (.slice aJ aD.length aK) := (blk_cell aA.out 0).trans rfl
            have fC : wr.cell? ⟨aB, 1, none⟩ = some (.slice aL aC.length aM) := (blk_cell aA.out 1).trans rfl
            have fD : wr.cell? ⟨aB, 2, none⟩ = some (.int .i64 aE) := (blk_cell aA.out 2).trans rfl
            have fE : wr.cell? ⟨aB, 3, none⟩ = some (.int .i64 aF) := (blk_cell aA.out 3).trans rfl
            have fF : wr.cell? ⟨aB, 4, none⟩ = some (.int .i64 aG) := (blk_cell aA.out 4).trans rfl
            have fG := blk_frozen aA.out 0
            have fH := blk_frozen aA.out 1
            have fI := blk_frozen aA.out 2
            have fJ := blk_frozen aA.out 3
            have fK := blk_frozen aA.out 4
            have p175 : 0 ≤ (aI : Int) := of_decide_eq_true (by first | (with_reducible assumption) | assumption)
            have q175 : aI < (aC.length : Int) := of_decide_eq_true (by first | (with_reducible assumption) | assumption)
            obtain ⟨ad175, e175, aP⟩ := Kd.at_int aZ.out aI p175 q175
            cases e175
            replace aP := (HB.out.cell (World.block_lt_of_cell? w _ aP)).trans aP
            replace p175 := eq_true p175
            replace q175 := eq_true q175
            have p176 : 0 ≤ (aI : Int) := of_decide_eq_true (by first | (with_reducible assumption) | assumption)
            have q176 : aI < (aC.length : Int) := of_decide_eq_true (by first | (with_reducible assumption) | assumption)
            obtain ⟨ad176, e176, aX⟩ := Kd.at_int aZ.out aI p176 q176
            obtain rfl : ad175 = ad176 := (by injection e176)
            replace aX := (HB.out.cell (World.block_lt_of_cell? w _ aX)).trans aX
            replace p176 := eq_true p176
            replace q176 := eq_true q176
            go_wp2
            go_ret
            exact ⟨by first | rfl | (simp [errW_none, errW_some] <;> rfl) | (simp [*, errW_none, errW_some] <;> rfl), by repeat (first | (with_reducible first | exact HB.out | apply below_alloc | apply pw_below_drewN | apply below_drew1 | refine below_set ?_ aN.out) | exact HB.out)⟩
           ·rw [if_neg c22] at H
            have eG : decide (4096 < (rd aC aI)) = false := decide_eq_false c22
            clear c22
            have H' := Aside0.mk H
            clear H
            have fL : wr.cell? ⟨aB, 0, none⟩ = some (.slice aJ aD.length aK) := (blk_cell aA.out 0).trans rfl
            have fM : wr.cell? ⟨aB, 1, none⟩ = some (.slice aL aC.length aM) := (blk_cell aA.out 1).trans rfl
            have fN : wr.cell? ⟨aB, 2, none⟩ = some (.int .i64 aE) := (blk_cell aA.out 2).trans rfl
            have fO : wr.cell? ⟨aB, 3, none⟩ = some (.int .i64 aF) := (blk_cell aA.out 3).trans rfl
            have fP : wr.cell? ⟨aB, 4, none⟩ = some (.int .i64 aG) := (blk_cell aA.out 4).trans rfl
            have fQ := blk_frozen aA.out 0
            have fR := blk_frozen aA.out 1
            have fS := blk_frozen aA.out 2
            have fT := blk_frozen aA.out 3
            have fU := blk_frozen aA.out 4
            have p175 : 0 ≤ (aI : Int) := of_decide_eq_true (by first | (with_reducible assumption) | assumption)
            have q175 : aI < (aC.length : Int) := of_decide_eq_true (by first | (with_reducible assumption) | assumption)
            obtain ⟨ad175, e175, aP⟩ := Kd.at_int aZ.out aI p175 q175
            cases e175
            replace aP := (HB.out.cell (World.block_lt_of_cell? w _ aP)).trans aP
            replace p175 := eq_true p175
            replace q175 := eq_true q175
            have p176 : 0 ≤ (aI : Int) := of_decide_eq_true (by first | (with_reducible assumption) | assumption)
            have q176 : aI < (aC.length : Int) := of_decide_eq_true (by first | (with_reducible assumption) | assumption)
            obtain ⟨ad176, e176, aX⟩ := Kd.at_int aZ.out aI p176 q176
            obtain rfl : ad175 = ad176 := (by injection e176)
            replace aX := (HB.out.cell (World.block_lt_of_cell? w _ aX)).trans aX
            replace p176 := eq_true p176
            replace q176 := eq_true q176
            go_wp2
            go_roundg k3
            case measure => have := HJ1.out; have := HK2.out; have := HK3.out; omega
            case rel => exact ⟨(wrap64 (aI + 1)), (by first | rfl | (simp; done) | (simp [*]; done)), H', ⟨by have := HJ1.out; have := HK2.out; have := HK3.out; omega⟩, ⟨by exact qB aA.out⟩, ⟨by repeat (first | (with_reducible first | exact HB.out | apply below_alloc | apply pw_below_drewN | apply below_drew1 | refine below_set ?_ aN.out) | exact HB.out)⟩⟩
         ·rw [if_neg c18] at H
          have eE : decide (aI < (aC.length : Int)) = false := decide_eq_false c18
          clear c18
          by_cases c25 : aE < 1
          ·rw [if_pos c25] at H
           have eH : decide (aE < 1) = true := decide_eq_true c25
           clear c25
           obtain rfl := Option.some.inj H
           have fV : wr.cell? ⟨aB, 0, none⟩ = some (.slice aJ aD.length aK) := (blk_cell aA.out 0).trans rfl
           have fW : wr.cell? ⟨aB, 1, none⟩ = some (.slice aL aC.length aM) := (blk_cell aA.out 1).trans rfl
           have fX : wr.cell? ⟨aB, 2, none⟩ = some (.int .i64 aE) := (blk_cell aA.out 2).trans rfl
           have fY : wr.cell? ⟨aB, 3, none⟩ = some (.int .i64 aF) := (blk_cell aA.out 3).trans rfl
           have fZ : wr.cell? ⟨aB, 4, none⟩ = some (.int .i64 aG) := (blk_cell aA.out 4).trans rfl
           have gA := blk_frozen aA.out 0
           have gB := blk_frozen aA.out 1
           have gC := blk_frozen aA.out 2
           have gD := blk_frozen aA.out 3
           have gE := blk_frozen aA.out 4
           go_wp2
           go_ret
           exact ⟨by first | rfl | (simp [errW_none, errW_some] <;> rfl) | (simp [*, errW_none, errW_some] <;> rfl), by repeat (first | (with_reducible first | exact HB.out | apply below_alloc | apply pw_below_drewN | apply below_drew1 | refine below_set ?_ aN.out) | exact HB.out)⟩
          ·rw [if_neg c25] at H
           have eH : decide (aE < 1) = false := decide_eq_false c25
           clear c25
           by_cases c27 : aE > 4096
           ·rw [if_pos c27] at H
            have eI : decide (4096 < aE) = true := decide_eq_true c27
            clear c27
            obtain rfl := Option.some.inj H
            have gF : wr.cell? ⟨aB, 0, none⟩ = some (.slice aJ aD.length aK) := (blk_cell aA.out 0).trans rfl
            have gG : wr.cell? ⟨aB, 1, none⟩ = some (.slice aL aC.length aM) := (blk_cell aA.out 1).trans rfl
            have gH : wr.cell? ⟨aB, 2, none⟩ = some (.int .i64 aE) := (blk_cell aA.out 2).trans rfl
            have gI : wr.cell? ⟨aB, 3, none⟩ = some (.int .i64 aF) := (blk_cell aA.out 3).trans rfl
            have gJ : wr.cell? ⟨aB, 4, none⟩ = some (.int .i64 aG) := (blk_cell aA.out 4).trans rfl
            have gK := blk_frozen aA.out 0
            have gL := blk_frozen aA.out 1
            have gM := blk_frozen aA.out 2
            have gN := blk_frozen aA.out 3
            have gO := blk_frozen aA.out 4
            go_wp2
            go_ret
            exact ⟨by first | rfl | (simp [errW_none, errW_some] <;> rfl) | (simp [*, errW_none, errW_some] <;> rfl), by repeat (first | (with_reducible first | exact HB.out | apply below_alloc | apply pw_below_drewN | apply below_drew1 | refine below_set ?_ aN.out) | exact HB.out)⟩
           ·rw [if_neg c27] at H
            have eI : decide (4096 < aE) = false := decide_eq_false c27
            clear c27
            by_cases c29 : aF < 0
            ·rw [if_pos c29] at H
             have eJ : decide (aF < 0) = true := decide_eq_true c29
             clear c29
             obtain rfl := Option.some.inj H
             have gP : wr.cell? ⟨aB, 0, none⟩ = some (.slice aJ aD.length aK) := (blk_cell aA.out 0).trans rfl
             have gQ : wr.cell? ⟨aB, 1, none⟩ = some (.slice aL aC.length aM) := (blk_cell aA.out 1).trans rfl
             have gR : wr.cell? ⟨aB, 2, none⟩ = some (.int .i64 aE) := (blk_cell aA.out 2).trans rfl
             have gS : wr.cell? ⟨aB, 3, none⟩ = some (.int .i64 aF) := (blk_cell aA.out 3).trans rfl
             have gT : wr.cell? ⟨aB, 4, none⟩ = some (.int .i64 aG) := (blk_cell aA.out 4).trans rfl
             have gU := blk_frozen aA.out 0
             have gV := blk_frozen aA.out 1
             have gW := blk_frozen aA.out 2
             have gX := blk_frozen aA.out 3
             have gY := blk_frozen aA.out 4
             go_wp2
             go_ret
             exact ⟨by first | rfl | (simp [errW_none, errW_some] <;> rfl) | (simp [*, errW_none, errW_some] <;> rfl), by repeat (first | (with_reducible first | exact HB.out | apply below_alloc | apply pw_below_drewN | apply below_drew1 | refine below_set ?_ aN.out) | exact HB.out)⟩
            ·rw [if_neg c29] at H
             have eJ : decide (aF < 0) = false := decide_eq_false c29
             clear c29
             by_cases c31 : aF > 1073741824
             ·rw [if_pos c31] at H
              have eK : decide (1073741824 < aF) = true := decide_eq_true c31
              clear c31
              obtain rfl := Option.some.inj H
              have gZ : wr.cell? ⟨aB, 0, none⟩ = some (.slice aJ aD.length aK) := (blk_cell aA.out 0).trans rfl
              have hA : wr.cell? ⟨aB, 1, none⟩ = some (.slice aL aC.length aM) := (blk_cell aA.out 1).trans rfl
              have hB : wr.cell? ⟨aB, 2, none⟩ = some (.int .i64 aE) := (blk_cell aA.out 2).trans rfl
              have hC : wr.cell? ⟨aB, 3, none⟩ = some (.int .i64 aF) := (blk_cell aA.out 3).trans rfl
              have hD : wr.cell? ⟨aB, 4, none⟩ = some (.int .i64 aG) := (blk_cell aA.out 4).trans rfl
              have hE := blk_frozen aA.out 0
              have hF := blk_frozen aA.out 1
              have hG := blk_frozen aA.out 2
              have hH := blk_frozen aA.out 3
              have hI := blk_frozen aA.out 4
              go_wp2
              go_ret
              exact ⟨by first | rfl | (simp [errW_none, errW_some] <;> rfl) | (simp [*, errW_none, errW_some] <;> rfl), by repeat (first | (with_reducible first | exact HB.out | apply below_alloc | apply pw_below_drewN | apply below_drew1 | refine below_set ?_ aN.out) | exact HB.out)⟩
             ·rw [if_neg c31] at H
              have eK : decide (1073741824 < aF) = false := decide_eq_false c31
              clear c31
              by_cases c33 : aG < 0
              ·rw [if_pos c33] at H
               have eL : decide (aG < 0) = true := decide_eq_true c33
               clear c33
               obtain rfl := Option.some.inj H
               have hJ : wr.cell? ⟨aB, 0, none⟩ = some (.slice aJ aD.length aK) := (blk_cell aA.out 0).trans rfl
               have hK : wr.cell? ⟨aB, 1, none⟩ = some (.slice aL aC.length aM) := (blk_cell aA.out 1).trans rfl
               have hL : wr.cell? ⟨aB, 2, none⟩ = some (.int .i64 aE) := (blk_cell aA.out 2).trans rfl
               have hM : wr.cell? ⟨aB, 3, none⟩ = some (.int .i64 aF) := (blk_cell aA.out 3).trans rfl
               have hN : wr.cell? ⟨aB, 4, none⟩ = some (.int .i64 aG) := (blk_cell aA.out 4).trans rfl
               have hO := blk_frozen aA.out 0
               have hP := blk_frozen aA.out 1
               have hQ := blk_frozen aA.out 2
               have hR := blk_frozen aA.out 3
               have hS := blk_frozen aA.out 4
               go_wp2
               go_ret
               exact ⟨by first | rfl | (simp [errW_none, errW_some] <;> rfl) | (simp [*, errW_none, errW_some] <;> rfl), by repeat (first | (with_reducible first | exact HB.out | apply below_alloc | apply pw_below_drewN | apply below_drew1 | refine below_set ?_ aN.out) | exact HB.out)⟩
              ·rw [if_neg c33] at H
               have eL : decide (aG < 0) = false := decide_eq_false c33
               clear c33
               by_cases c35 : aG > 1073741824
               ·rw [if_pos c35] at H
                have eM : decide (1073741824 < aG) = true := decide_eq_true c35
                clear c35
                obtain rfl := Option.some.inj H
                have hT : wr.cell? ⟨aB, 0, none⟩ = some (.slice aJ aD.length aK) := (blk_cell aA.out 0).trans rfl
                have hU : wr.cell? ⟨aB, 1, none⟩ = some (.slice aL aC.length aM) := (blk_cell aA.out 1).trans rfl
                have hV : wr.cell? ⟨aB, 2, none⟩ = some (.int .i64 aE) := (blk_cell aA.out 2).trans rfl
                have hW : wr.cell? ⟨aB, 3, none⟩ = some (.int .i64 aF) := (blk_cell aA.out 3).trans rfl
                have hX : wr.cell? ⟨aB, 4, none⟩ = some (.int .i64 aG) := (blk_cell aA.out 4).trans rfl
                have hY := blk_frozen aA.out 0
                have hZ := blk_frozen aA.out 1
                have iA := blk_frozen aA.out 2
                have iB := blk_frozen aA.out 3
                have iC := blk_frozen aA.out 4
                go_wp2
                go_ret
                exact ⟨by first | rfl | (simp [errW_none, errW_some] <;> rfl) | (simp [*, errW_none, errW_some] <;> rfl), by repeat (first | (with_reducible first | exact HB.out | apply below_alloc | apply pw_below_drewN | apply below_drew1 | refine below_set ?_ aN.out) | exact HB.out)⟩
               ·rw [if_neg c35] at H
                have eM : decide (1073741824 < aG) = false := decide_eq_false c35
                clear c35
                obtain rfl := Option.some.inj H
                have iD : wr.cell? ⟨aB, 0, none⟩ = some (.slice aJ aD.length aK) := (blk_cell aA.out 0).trans rfl
                have iE : wr.cell? ⟨aB, 1, none⟩ = some (.slice aL aC.length aM) := (blk_cell aA.out 1).trans rfl
                have iF : wr.cell? ⟨aB, 2, none⟩ = some (.int .i64 aE) := (blk_cell aA.out 2).trans rfl
                have iG : wr.cell? ⟨aB, 3, none⟩ = some (.int .i64 aF) := (blk_cell aA.out 3).trans rfl
                have iH : wr.cell? ⟨aB, 4, none⟩ = some (.int .i64 aG) := (blk_cell aA.out 4).trans rfl
                have iI := blk_frozen aA.out 0
                have iJ := blk_frozen aA.out 1
                have iK := blk_frozen aA.out 2
                have iL := blk_frozen aA.out 3
                have iM := blk_frozen aA.out 4
                go_wp2
                go_ret
                exact ⟨by first | rfl | (simp [errW_none, errW_some] <;> rfl) | (simp [*, errW_none, errW_some] <;> rfl), by repeat (first | (with_reducible first | exact HB.out | apply below_alloc | apply pw_below_drewN | apply below_drew1 | refine below_set ?_ aN.out) | exact HB.out)⟩

end Go.Proofs.Ytcflacjidabppaa.Pr

-- Written by pp.py, a program of this session, over the translation of the given program; a machine's text: Lean checks it.
import Derived.Test.YtcflacjidabppaaGShort
namespace Go.Proofs.Ytcflacjidabppaa.Pr
open Go.RowKit Go.Proofs.YtcflacjidabppaaW.PrintWords Go.Proofs.YtcflacjidabppaaW.PrintLast Go.Proofs.YtcflacjidabppaaW.PrintMore
attribute [local go_sem] max2_int min2_int max_two min_two max_three min_three max_four min_four   -- for this text's walks alone
set_option linter.unusedVariables false
set_option linter.unusedSimpArgs false

/-! ### standbyref56_Few: function 11 -/
def standbyref56_Few.f (aB : List Int) (aD : List Int) (aE : Int) (aF : Int) (aG : Int) : Option (Bool) := if (aB.length : Int) ≤ 40 then (some (decide ((aD.length : Int) ≤ 60))) else (some false)
set_option maxHeartbeats 8000000 in
set_option maxRecDepth 100000 in
theorem standbyref56_Few.calls (aH : Option Addr) (aI : Nat) (aB : List Int) (aJ : Option Addr) (aK : Nat) (aD : List Int) (aE : Int) (aF : Int) (aG : Int) (r : Bool) (w : World) (aM : Kd.C (Kd.int .i64) w aH aB.length aB) (aN : aB.length ≤ aI) (aO : Kd.C (Kd.int .i64) w aJ aD.length aD) (aP : aD.length ≤ aK) (h : standbyref56_Few.f aB aD aE aF aG = some r) :
  Calls Try.prog 11 #[.agg #[.slice aH aB.length aI, .slice aJ aD.length aK, .int .i64 aE, .int .i64 aF, .int .i64 aG]] w fun e w' => e = .returned (.bool r) ∧ Below w.heap.size w w' := by
 have hu24 := Try.underlying24
 have aT := Aside0.mk aM
 have aU := Aside0.mk aN
 clear aM aN
 have aV := Aside0.mk aO
 have aW := Aside0.mk aP
 clear aO aP
 have HB := Aside0.mk (Below.refl w.heap.size w)
 have H : (if (aB.length : Int) ≤ 40 then (some (decide ((aD.length : Int) ≤ 60))) else (some false)) = some r := h
 clear h
 by_cases c2 : (aB.length : Int) ≤ 40
 ·rw [if_pos c2] at H
  have aQ : decide ((aB.length : Int) ≤ 40) = true := decide_eq_true c2
  have aR : decide (aB.length ≤ 40) = true := decide_eq_true (by omega)
  clear c2
  obtain rfl := Option.some.inj H
  go_enter Try.func11, Try.ntmps11
  go_wp2_with (first | ((with_reducible refine gate_dst (N := 1) rfl ?_); (try (refine gate_guard (by rfl) ?_; dsimp only)); refine box_event ?hg (N := 1) ?hd (cs := #[.slice aH aB.length aI, .slice aJ aD.length aK, .int .i64 aE, .int .i64 aF, .int .i64 aG]) (t := 24) ?hr ?_; (case hd => rfl); (case hg => rfl); (case hr => first | (go_simp; done) | (go_simp; rfl)); intro aC hg w3 hbox hb; have n0_ := Aside0.mk (below_step (qW HB.out) hb); have n1_ := Aside0.mk (hbox); have n2_ := Aside0.mk ((by rw [hg]; exact (below_size (qW HB.out)) : w.heap.size ≤ aC)); have n3_ := Aside0.mk ((by rw [hg]; exact (below_size (qW HB.out)) : w.heap.size ≤ aC)); clear HB; have HB := n0_; have aA := n1_; have aS := n2_; have aL := n3_; clear n0_ n1_ n2_ n3_ hb hbox hg; have aX : w3.cell? ⟨aC, 0, none⟩ = some (.slice aH aB.length aI) := (blk_cell aA.out 0).trans rfl; have aY : w3.cell? ⟨aC, 1, none⟩ = some (.slice aJ aD.length aK) := (blk_cell aA.out 1).trans rfl; have aZ : w3.cell? ⟨aC, 2, none⟩ = some (.int .i64 aE) := (blk_cell aA.out 2).trans rfl; have bA : w3.cell? ⟨aC, 3, none⟩ = some (.int .i64 aF) := (blk_cell aA.out 3).trans rfl; have bB : w3.cell? ⟨aC, 4, none⟩ = some (.int .i64 aG) := (blk_cell aA.out 4).trans rfl; have bC := blk_frozen aA.out 0; have bD := blk_frozen aA.out 1; have bE := blk_frozen aA.out 2; have bF := blk_frozen aA.out 3; have bG := blk_frozen aA.out 4))
  go_ret
  exact ⟨by first | rfl | (simp [errW_none, errW_some] <;> rfl) | (simp [*, errW_none, errW_some] <;> rfl), by repeat (first | (with_reducible first | exact HB.out | apply below_alloc | apply pw_below_drewN | apply below_drew1 | refine below_set ?_ aL.out) | exact HB.out)⟩
 ·rw [if_neg c2] at H
  have aQ : decide ((aB.length : Int) ≤ 40) = false := decide_eq_false c2
  have aR : decide (aB.length ≤ 40) = false := decide_eq_false (by omega)
  clear c2
  obtain rfl := Option.some.inj H
  go_enter Try.func11, Try.ntmps11
  go_wp2_with (first | ((with_reducible refine gate_dst (N := 1) rfl ?_); (try (refine gate_guard (by rfl) ?_; dsimp only)); refine box_event ?hg (N := 1) ?hd (cs := #[.slice aH aB.length aI, .slice aJ aD.length aK, .int .i64 aE, .int .i64 aF, .int .i64 aG]) (t := 24) ?hr ?_; (case hd => rfl); (case hg => rfl); (case hr => first | (go_simp; done) | (go_simp; rfl)); intro aC hg w5 hbox hb; have n0_ := Aside0.mk (below_step (qW HB.out) hb); have n1_ := Aside0.mk (hbox); have n2_ := Aside0.mk ((by rw [hg]; exact (below_size (qW HB.out)) : w.heap.size ≤ aC)); have n3_ := Aside0.mk ((by rw [hg]; exact (below_size (qW HB.out)) : w.heap.size ≤ aC)); clear HB; have HB := n0_; have aA := n1_; have aS := n2_; have aL := n3_; clear n0_ n1_ n2_ n3_ hb hbox hg; have bH : w5.cell? ⟨aC, 0, none⟩ = some (.slice aH aB.length aI) := (blk_cell aA.out 0).trans rfl; have bI : w5.cell? ⟨aC, 1, none⟩ = some (.slice aJ aD.length aK) := (blk_cell aA.out 1).trans rfl; have bJ : w5.cell? ⟨aC, 2, none⟩ = some (.int .i64 aE) := (blk_cell aA.out 2).trans rfl; have bK : w5.cell? ⟨aC, 3, none⟩ = some (.int .i64 aF) := (blk_cell aA.out 3).trans rfl; have bL : w5.cell? ⟨aC, 4, none⟩ = some (.int .i64 aG) := (blk_cell aA.out 4).trans rfl; have bM := blk_frozen aA.out 0; have bN := blk_frozen aA.out 1; have bO := blk_frozen aA.out 2; have bP := blk_frozen aA.out 3; have bQ := blk_frozen aA.out 4))
  go_ret
  exact ⟨by first | rfl | (simp [errW_none, errW_some] <;> rfl) | (simp [*, errW_none, errW_some] <;> rfl), by repeat (first | (with_reducible first | exact HB.out | apply below_alloc | apply pw_below_drewN | apply below_drew1 | refine below_set ?_ aL.out) | exact HB.out)⟩

end Go.Proofs.Ytcflacjidabppaa.Pr

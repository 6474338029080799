/- A curve, as it comes in, opened to a row of numbers. -/
import Derived.Test.YtanlonngekgibaaP0
import Derived.WalkKit
import Derived.ProofKit
import Derived.OpenShut
import Derived.ChangeOld
import Derived.ChangeSlices
import Derived.ChangeSame
import Derived.WideShapes
namespace Go.Proofs.Ytanlonngekgibaa.Pr
open Go.ChangeShapes Go.WideShapes Go.ChangeAt Go.RowKit Go.Proofs.YtanlonngekgibaaW.PrintWords Go.Proofs.YtanlonngekgibaaW.PrintLast Go.Proofs.YtanlonngekgibaaW.PrintMore
set_option linter.unusedVariables false
set_option linter.unusedSimpArgs false

theorem open_rowC {H : Type} {enc : TypeId × Value → H} {w : World} {held : Bool} {fuel : Nat} {cs : List Value} {x : DataW H × List MemPlace} (h : DataW.trod enc Try.prog w 0 (fun _ => true) held fuel 22 cs = some x) :
    ∃ (A : Option Addr) (c : Nat) (l : List Int), cs = [.slice A l.length c] ∧ l.length ≤ c ∧ Kd.C (Kd.int .i64) w A l.length l := by
  rcases open_ints Try.underlying22 Try.underlying3 (by kernel_rfl) h with ⟨hcs, _⟩ | ⟨a, len, cap, zs, hcs, _, hl, hm, hz, _, hcell, _⟩
  · exact ⟨none, 0, [], hcs, Nat.le_refl _, Kd.C_nil _ _⟩
  · have hz' : zs.length = cap := by simpa using hz
    have hlen : (zs.take len).length = len := by rw [List.length_take]; omega
    refine ⟨some a, cap, zs.take len, by rw [hlen]; exact hcs, by rw [hlen]; exact hl, ?_⟩
    refine Kd.C_of_reads (d := (0 : Int)) ⟨rfl, ?_, fun hn => ⟨a, rfl, fun j hj => ?_⟩⟩
    · rw [hlen]; simp only [maxLen] at hm; omega
    · rw [hlen] at hj
      rw [hcell j (by omega)]
      simp only [List.getD_eq_getElem?_getD, List.getElem?_take, hj, if_true]

set_option maxRecDepth 100000 in
theorem open_curve {H : Type} {enc : TypeId × Value → H} {W : World} {r : Reach} {b0 : Nat} {v : Value} {d : DataW H} {p : List MemPlace} (hv : Value.okWide Try.prog W r b0 24 v) (h : DataW.Trod enc Try.prog W 0 (fun _ => true) true 24 v d p) :
    ∃ A0 c0 l0 x1, v = .agg #[.slice A0 (l0 : List Int).length c0, .int .i64 x1] ∧ l0.length ≤ c0 ∧ Kd.C (Kd.int .i64) W A0 l0.length l0 := by
  obtain ⟨cs, rfl, hsz⟩ := okWide_struct Try.underlying24 hv
  have hc2 : Try.prog.cellsOf 24 = 2 := by kernel_rfl
  have hc1 : Try.prog.cellsOf 22 = 1 := by kernel_rfl
  have hc3 : Try.prog.cellsOf 3 = 1 := by kernel_rfl
  rw [hc2] at hsz
  obtain ⟨l⟩ := cs
  match l, hsz with
  | [c0, c1], _ =>
    obtain ⟨fuel, hf⟩ := h
    obtain ⟨xs, n, _, hx, _, hlen, hg⟩ := DataW.trod_struct Try.underlying24 hf
    match xs, hlen with
    | [y0, y1], _ =>
      have g0 := hg 0 _ rfl
      have g1 := hg 1 _ rfl
      simp [Value.cells, hc1, hc3] at g0 g1
      obtain ⟨A0, k0, l0, e0, h0, C0⟩ := open_rowC g0
      obtain ⟨x1, e1, _⟩ := DataW.trod_int Try.underlying3 g1
      simp only [List.cons.injEq, and_true] at e0 e1
      subst e0 e1
      exact ⟨A0, k0, l0, x1, rfl, h0, C0⟩
theorem open_list {H : Type} {enc : TypeId × Value → H} {W : World} {r : Reach} {b0 : Nat} {v : Value} {d : DataW H} {p : List MemPlace} (hv : Value.okWide Try.prog W r b0 22 v) (h : DataW.Trod enc Try.prog W 0 (fun _ => true) true 22 v d p) :
    ∃ A0 c0 l0, v = .slice A0 (l0 : List Int).length c0 ∧ l0.length ≤ c0 ∧ Kd.C (Kd.int .i64) W A0 l0.length l0 := by
  obtain ⟨a, n, c, rfl⟩ := okWide_slice Try.underlying22 hv
  obtain ⟨fuel, hf⟩ := h
  obtain ⟨A0, c0, l0, e, h0, C0⟩ := open_rowC hf
  have e2 : [Value.slice a n c] = [Value.slice A0 l0.length c0] := e
  simp only [List.cons.injEq, and_true] at e2
  exact ⟨A0, c0, l0, e2, h0, C0⟩
theorem byte_bd (a : Int) (h : (Lit.int .u8 a).wf = true) : 0 ≤ a ∧ a ≤ 255 := by
  simp [Lit.wf, IntKind.min, IntKind.max, IntKind.bits, IntKind.signed] at h
  omega
end Go.Proofs.Ytanlonngekgibaa.Pr

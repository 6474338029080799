/- A trace and a plan, as they come in, opened to rows of numbers. -/
import Derived.Test.YtcflacjidabppaaP0
import Derived.WalkKit
import Derived.ProofKit
import Derived.OpenShut
import Derived.ChangeOld
import Derived.ChangeSlices
import Derived.ChangeSame
import Derived.WideShapes
namespace Go.Proofs.Ytcflacjidabppaa.Pr
open Go.ChangeShapes Go.WideShapes Go.ChangeAt Go.RowKit Go.Proofs.YtcflacjidabppaaW.PrintWords Go.Proofs.YtcflacjidabppaaW.PrintLast Go.Proofs.YtcflacjidabppaaW.PrintMore
set_option linter.unusedVariables false
set_option linter.unusedSimpArgs false

theorem open_rowC {H : Type} {enc : TypeId × Value → H} {w : World} {held : Bool} {fuel : Nat} {cs : List Value} {x : DataW H × List MemPlace} (h : DataW.trod enc Try.prog w 0 (fun _ => true) held fuel 22 cs = some x) :
    ∃ (A : Option Addr) (c : Nat) (l : List Int), cs = [.slice A l.length c] ∧ l.length ≤ c ∧ Kd.C (Kd.int .i64) w A l.length l := by
  rcases open_ints Try.underlying22 Try.underlying3 (by kernel_rfl) h with ⟨hcs, _⟩ | ⟨a, len, cap, zs, hcs, _, hl, hm, hz, _, hcell, _⟩
  · exact ⟨none, 0, [], hcs, Nat.le_refl _, Kd.C_nil _ _⟩
  · have hz' : zs.length = cap := by simpa using hz
    have hlen : (zs.take len).length = len := by rw [List.length_take]; omega
    refine ⟨some a, cap, zs.take len, by rw [hlen]; exact hcs, by rw [hlen]; exact hl, ?_⟩
    refine Kd.C_of_reads (d := (0 : Int)) ⟨rfl, ?_, fun hn => ⟨a, rfl, fun j hj => ?_⟩⟩
    · rw [hlen]; simp only [maxLen] at hm; omega
    · rw [hlen] at hj
      rw [hcell j (by omega)]
      simp only [List.getD_eq_getElem?_getD, List.getElem?_take, hj, if_true]

set_option maxRecDepth 100000 in
theorem open_trace {H : Type} {enc : TypeId × Value → H} {W : World} {r : Reach} {b0 : Nat} {v : Value} {d : DataW H} {p : List MemPlace} (hv : Value.okWide Try.prog W r b0 24 v) (h : DataW.Trod enc Try.prog W 0 (fun _ => true) true 24 v d p) :
    ∃ A0 c0 l0 A1 c1 l1 x2 x3 x4, v = .agg #[.slice A0 (l0 : List Int).length c0, .slice A1 (l1 : List Int).length c1, .int .i64 x2, .int .i64 x3, .int .i64 x4] ∧ l0.length ≤ c0 ∧ l1.length ≤ c1 ∧ Kd.C (Kd.int .i64) W A0 l0.length l0 ∧ Kd.C (Kd.int .i64) W A1 l1.length l1 := by
  obtain ⟨cs, rfl, hsz⟩ := okWide_struct Try.underlying24 hv
  have hc5 : Try.prog.cellsOf 24 = 5 := by kernel_rfl
  have hc1 : Try.prog.cellsOf 22 = 1 := by kernel_rfl
  have hc3 : Try.prog.cellsOf 3 = 1 := by kernel_rfl
  rw [hc5] at hsz
  obtain ⟨l⟩ := cs
  match l, hsz with
  | [c0, c1, c2, c3, c4], _ =>
    obtain ⟨fuel, hf⟩ := h
    obtain ⟨xs, n, _, hx, _, hlen, hg⟩ := DataW.trod_struct Try.underlying24 hf
    match xs, hlen with
    | [y0, y1, y2, y3, y4], _ =>
      have g0 := hg 0 _ rfl
      have g1 := hg 1 _ rfl
      have g2 := hg 2 _ rfl
      have g3 := hg 3 _ rfl
      have g4 := hg 4 _ rfl
      simp [Value.cells, hc1, hc3] at g0 g1 g2 g3 g4
      obtain ⟨A0, k0, l0, e0, h0, C0⟩ := open_rowC g0
      obtain ⟨A1, k1, l1, e1, h1, C1⟩ := open_rowC g1
      obtain ⟨x2, e2, _⟩ := DataW.trod_int Try.underlying3 g2
      obtain ⟨x3, e3, _⟩ := DataW.trod_int Try.underlying3 g3
      obtain ⟨x4, e4, _⟩ := DataW.trod_int Try.underlying3 g4
      simp only [List.cons.injEq, and_true] at e0 e1 e2 e3 e4
      subst e0 e1 e2 e3 e4
      exact ⟨A0, k0, l0, A1, k1, l1, x2, x3, x4, rfl, h0, h1, C0, C1⟩

set_option maxRecDepth 100000 in
theorem open_plan {H : Type} {enc : TypeId × Value → H} {W : World} {r : Reach} {b0 : Nat} {v : Value} {d : DataW H} {p : List MemPlace} (hv : Value.okWide Try.prog W r b0 28 v) (h : DataW.Trod enc Try.prog W 0 (fun _ => true) true 28 v d p) :
    ∃ A0 c0 l0 A1 c1 l1 A2 c2 l2 A3 c3 l3 x4, v = .agg #[.slice A0 (l0 : List Int).length c0, .slice A1 (l1 : List Int).length c1, .slice A2 (l2 : List Int).length c2, .slice A3 (l3 : List Int).length c3, .int .i64 x4] ∧ l0.length ≤ c0 ∧ l1.length ≤ c1 ∧ l2.length ≤ c2 ∧ l3.length ≤ c3 ∧ Kd.C (Kd.int .i64) W A0 l0.length l0 ∧ Kd.C (Kd.int .i64) W A1 l1.length l1 ∧ Kd.C (Kd.int .i64) W A2 l2.length l2 ∧ Kd.C (Kd.int .i64) W A3 l3.length l3 := by
  obtain ⟨cs, rfl, hsz⟩ := okWide_struct Try.underlying28 hv
  have hc5 : Try.prog.cellsOf 28 = 5 := by kernel_rfl
  have hc1 : Try.prog.cellsOf 22 = 1 := by kernel_rfl
  have hc3 : Try.prog.cellsOf 3 = 1 := by kernel_rfl
  rw [hc5] at hsz
  obtain ⟨l⟩ := cs
  match l, hsz with
  | [c0, c1, c2, c3, c4], _ =>
    obtain ⟨fuel, hf⟩ := h
    obtain ⟨xs, n, _, hx, _, hlen, hg⟩ := DataW.trod_struct Try.underlying28 hf
    match xs, hlen with
    | [y0, y1, y2, y3, y4], _ =>
      have g0 := hg 0 _ rfl
      have g1 := hg 1 _ rfl
      have g2 := hg 2 _ rfl
      have g3 := hg 3 _ rfl
      have g4 := hg 4 _ rfl
      simp [Value.cells, hc1, hc3] at g0 g1 g2 g3 g4
      obtain ⟨A0, k0, l0, e0, h0, C0⟩ := open_rowC g0
      obtain ⟨A1, k1, l1, e1, h1, C1⟩ := open_rowC g1
      obtain ⟨A2, k2, l2, e2, h2, C2⟩ := open_rowC g2
      obtain ⟨A3, k3, l3, e3, h3, C3⟩ := open_rowC g3
      obtain ⟨x4, e4, _⟩ := DataW.trod_int Try.underlying3 g4
      simp only [List.cons.injEq, and_true] at e0 e1 e2 e3 e4
      subst e0 e1 e2 e3 e4
      exact ⟨A0, k0, l0, A1, k1, l1, A2, k2, l2, A3, k3, l3, x4, rfl, h0, h1, h2, h3, C0, C1, C2, C3⟩
end Go.Proofs.Ytcflacjidabppaa.Pr

/- A change, as it comes in, opened to rows of numbers. -/
import Derived.Test.YtcflacjidabppaaGOpen
namespace Go.Proofs.Ytcflacjidabppaa.Pr
open Go.ChangeShapes Go.WideShapes Go.ChangeAt Go.RowKit Go.Proofs.YtcflacjidabppaaW.PrintWords Go.Proofs.YtcflacjidabppaaW.PrintLast Go.Proofs.YtcflacjidabppaaW.PrintMore
set_option linter.unusedVariables false
set_option linter.unusedSimpArgs false

theorem wf_u8 {n : Int} (h : (Lit.int .u8 n).wf = true) : 0 ≤ n ∧ n ≤ 255 := by
  simp [Lit.wf, IntKind.min, IntKind.max, IntKind.signed, IntKind.bits] at h
  omega

theorem open_rowU {H : Type} {enc : TypeId × Value → H} {w : World} {held : Bool} {fuel : Nat} {cs : List Value} {x : DataW H × List MemPlace} (h : DataW.trod enc Try.prog w 0 (fun _ => true) held fuel 47 cs = some x) :
    ∃ (A : Option Addr) (c : Nat) (l : List Int), cs = [.slice A l.length c] ∧ l.length ≤ c ∧ Kd.C (Kd.int .u8) w A l.length l ∧ ∀ x ∈ l, 0 ≤ x ∧ x ≤ 255 := by
  rcases open_ints Try.underlying47 Try.underlying5 (by kernel_rfl) h with ⟨hcs, _⟩ | ⟨a, len, cap, zs, hcs, _, hl, hm, hz, _, hcell, hwf⟩
  · exact ⟨none, 0, [], hcs, Nat.le_refl _, Kd.C_nil _ _, fun x hx => by cases hx⟩
  · have hz' : zs.length = cap := by simpa using hz
    have hlen : (zs.take len).length = len := by rw [List.length_take]; omega
    refine ⟨some a, cap, zs.take len, by rw [hlen]; exact hcs, by rw [hlen]; exact hl, ?_, fun x hx => wf_u8 (hwf x (List.mem_of_mem_take hx))⟩
    refine Kd.C_of_reads (d := (0 : Int)) ⟨rfl, ?_, fun hn => ⟨a, rfl, fun j hj => ?_⟩⟩
    · rw [hlen]; simp only [maxLen] at hm; omega
    · rw [hlen] at hj
      rw [hcell j (by omega)]
      simp only [List.getD_eq_getElem?_getD, List.getElem?_take, hj, if_true]

set_option maxRecDepth 100000 in
theorem open_change {H : Type} {enc : TypeId × Value → H} {W : World} {r : Reach} {b0 : Nat} {v : Value} {d : DataW H} {p : List MemPlace} (hv : Value.okWide Try.prog W r b0 49 v) (h : DataW.Trod enc Try.prog W 0 (fun _ => true) true 49 v d p) :
    ∃ A0 c0 l0 A1 c1 l1 x2, v = .agg #[.slice A0 (l0 : List Int).length c0, .slice A1 (l1 : List Int).length c1, .int .u8 x2] ∧ l0.length ≤ c0 ∧ l1.length ≤ c1 ∧ Kd.C (Kd.int .u8) W A0 l0.length l0 ∧ Kd.C (Kd.int .u8) W A1 l1.length l1 ∧
      (∀ x ∈ l0, 0 ≤ x ∧ x ≤ 255) ∧ (∀ x ∈ l1, 0 ≤ x ∧ x ≤ 255) ∧ 0 ≤ x2 ∧ x2 ≤ 255 := by
  obtain ⟨cs, rfl, hsz⟩ := okWide_struct Try.underlying49 hv
  have hc5 : Try.prog.cellsOf 49 = 3 := by kernel_rfl
  have hc1 : Try.prog.cellsOf 47 = 1 := by kernel_rfl
  have hc3 : Try.prog.cellsOf 5 = 1 := by kernel_rfl
  rw [hc5] at hsz
  obtain ⟨l⟩ := cs
  match l, hsz with
  | [c0, c1, c2], _ =>
    obtain ⟨fuel, hf⟩ := h
    obtain ⟨xs, n, _, hx, _, hlen, hg⟩ := DataW.trod_struct Try.underlying49 hf
    match xs, hlen with
    | [y0, y1, y2], _ =>
      have g0 := hg 0 _ rfl
      have g1 := hg 1 _ rfl
      have g2 := hg 2 _ rfl
      simp [Value.cells, hc1, hc3] at g0 g1 g2
      obtain ⟨A0, k0, l0, e0, h0, C0, b0⟩ := open_rowU g0
      obtain ⟨A1, k1, l1, e1, h1, C1, b1⟩ := open_rowU g1
      obtain ⟨x2, e2, _, hw⟩ := DataW.trod_int Try.underlying5 g2
      simp only [List.cons.injEq, and_true] at e0 e1 e2
      subst e0 e1 e2
      have := wf_u8 hw
      exact ⟨A0, k0, l0, A1, k1, l1, x2, rfl, h0, h1, C0, C1, b0, b1, this.1, this.2⟩
end Go.Proofs.Ytcflacjidabppaa.Pr

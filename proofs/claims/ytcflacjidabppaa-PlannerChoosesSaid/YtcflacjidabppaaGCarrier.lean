/- planner's carrier: before, end. -/
import Derived.Test.YtcflacjidabppaaGSearch
import Derived.IntWalk
namespace Go.Proofs.Ytcflacjidabppaa.Pr
open Go.RowKit Go.Proofs.YtcflacjidabppaaW.PrintWords Go.Proofs.YtcflacjidabppaaW.PrintLast Go.Proofs.YtcflacjidabppaaW.PrintMore
set_option linter.unusedVariables false
set_option linter.unusedSimpArgs false
attribute [local go_sem] max2_int min2_int max_two min_two max_three min_three max_four min_four

/-- What a link carries before tick t, out of its sums and its last capacity. -/
def bef (sums : List Int) (last t : Int) : Int := if t ≤ (sums.length : Int) - 1 then rd sums t else rd sums ((sums.length : Int) - 1) + (t - ((sums.length : Int) - 1)) * last

/-- A carrier at block g. -/
def Car (w : World) (g : Nat) (sums : List Int) (last : Int) : Prop :=
  ∃ A c, w.heap[g]? = some (.cells #[.slice A sums.length c, .int .i64 last] 91 (0, 0)) ∧ sums.length ≤ c ∧ Kd.C (Kd.int .i64) w A sums.length sums
theorem Car.below {w w1 : World} {g : Nat} {sums : List Int} {last : Int} (h : Car w g sums last) (hb : Below w.heap.size w w1) : Car w1 g sums last := by
  obtain ⟨A, c, h1, h2, h3⟩ := h
  exact ⟨A, c, (hb.block g (blk_lt h1)).trans h1, h2, Kd.C_below h3 hb⟩
/-- Its numbers are small. -/
def Small (sums : List Int) (last : Int) : Prop := 1 ≤ sums.length ∧ sums.length ≤ 5000 ∧ (∀ x ∈ sums, 0 ≤ x ∧ x ≤ 17000000) ∧ 0 ≤ last ∧ last ≤ 4096

theorem rd_mem (l : List Int) (i : Int) (h0 : 0 ≤ i) (h1 : i < l.length) : rd l i ∈ l := by
  have hn : i.toNat < l.length := by omega
  have e : rd l i = l[i.toNat] := by simp [rd, List.getD_eq_getElem?_getD, List.getElem?_eq_getElem hn]
  rw [e]; exact List.getElem_mem hn

theorem mul_bd (a b : Int) (ha : 0 ≤ a) (ha' : a ≤ 1099511627776) (hb : 0 ≤ b) (hb' : b ≤ 4096) : 0 ≤ a * b ∧ a * b ≤ 4503599627370496 :=
  ⟨Int.mul_nonneg ha hb, Int.le_trans (Int.mul_le_mul ha' hb' hb (by decide)) (by decide)⟩

set_option maxRecDepth 100000 in
theorem before_calls (g : Nat) (sums : List Int) (last t : Int) (w : World) (hC : Car w g sums last) (hS : Small sums last) (h0 : 0 ≤ t) (h1 : t ≤ 1099511627776) :
    Calls Try.prog 57 #[.pointer (some ⟨g, 0, none⟩), .int .i64 t] w fun e w' => e = .returned (.int .i64 (bef sums last t)) ∧ Drawn0 w w' := by
  obtain ⟨A, c, hb, hc, hr⟩ := hC
  obtain ⟨n, hn⟩ : ∃ n, sums.length = n + 1 := ⟨sums.length - 1, by have := hS.1; omega⟩
  rw [hn] at hb hc hr
  have hl2 : n ≤ 5000 := by have := hS.2.1; omega
  have HN := Aside0.mk hn
  have HS := Aside0.mk hS
  clear hS
  have f0 : w.cell? ⟨g, 0, none⟩ = some (.slice A (n + 1) c) := (blk_cell hb 0).trans rfl
  have f1 : w.cell? ⟨g, 1, none⟩ = some (.int .i64 last) := (blk_cell hb 1).trans rfl
  have HR := Aside0.mk hr
  clear hr hb
  by_cases ht : t ≤ (n : Int)
  · have fin := Aside0.mk (show bef sums last t = rd sums t from by unfold bef; rw [hn, if_pos (by omega)])
    clear hn
    obtain ⟨ad, rfl, hcell⟩ := Kd.at_int HR.out t h0 (by omega)
    have q0 := decide_eq_true ht
    have p0 := eq_true (show t < (n : Int) + 1 from by omega)
    replace h0 := eq_true h0
    clear ht
    go_enter Try.func57, Try.ntmps57
    go_wp2
    go_ret
    exact ⟨by rw [fin.out]; rfl, Drawn0.refl w⟩
  · have fin := Aside0.mk (show bef sums last t = rd sums n + (t - n) * last from by unfold bef; rw [hn, if_neg (by omega), show (((n + 1 : Nat) : Int) - 1) = n from by omega])
    obtain ⟨ad, rfl, hcell⟩ := Kd.at_int HR.out (n : Int) (by omega) (by omega)
    rw [Int.toNat_natCast] at hcell
    have q0 := decide_eq_false ht
    have hm := mul_bd (t - n) last (by omega) (by omega) HS.out.2.2.2.1 HS.out.2.2.2.2
    have hx := HS.out.2.2.1 _ (rd_mem sums (n : Int) (by omega) (by omega))
    clear hn
    have e1 : wrap64 (t - n) = t - n := by unfold wrap64; omega
    have e2 : wrap64 ((t - n) * last) = (t - n) * last := by
      generalize (t - n) * last = z at hm
      unfold wrap64; omega
    have e3 : wrap64 (rd sums n + (t - n) * last) = rd sums n + (t - n) * last := by
      generalize (t - n) * last = z at hm
      unfold wrap64; omega
    have E := Aside0.mk (And.intro e1 (And.intro e2 e3))
    clear ht hm hx e1 e2 e3
    go_enter Try.func57, Try.ntmps57
    go_wp2
    go_quiet (fail)
    go_wp2
    go_ret
    refine ⟨?_, Drawn0.step (Drawn0.refl w) _⟩
    rw [fin.out]
    show Ending.returned (.int .i64 (wrap64 (rd sums n + wrap64 ((t - n) * last)))) = _
    rw [E.out.2.1, E.out.2.2]

/-- The closure of end's search: a boxed 'before', start and want. -/
theorem end1_pred (g : Nat) (sums : List Int) (last start want n : Int) (r : Int) (B : Nat) (w : World) (hC : Car w g sums last) (hS : Small sums last) (h0 : 0 ≤ start) (h1 : start + n ≤ 1099511627776)
    (b0 : w.cell? ⟨B, 0, none⟩ = some (.int .i64 start)) (b1 : w.cell? ⟨B + 1, 0, none⟩ = some (.func (.func 57) #[.pointer (some ⟨g, 0, none⟩)] #[])) (b2 : w.cell? ⟨B + 1 + 1, 0, none⟩ = some (.int .i64 want))
    (hr : ∀ x, 0 ≤ x → x < n → decide (bef sums last (start + x) ≥ want) = decide (r ≤ x)) :
    PredC Drawn0 58 #[.pointer (some ⟨B + 1, 0, none⟩), .pointer (some ⟨B, 0, none⟩), .pointer (some ⟨B + 1 + 1, 0, none⟩)] r n w := by
  intro x W hx0 hx1 hd
  have hb := hd.below
  have f0 : W.cell? ⟨B, 0, none⟩ = some (.int .i64 start) := pw_cell_below hb b0
  have f1 : W.cell? ⟨B + 1, 0, none⟩ = some (.func (.func 57) #[.pointer (some ⟨g, 0, none⟩)] #[]) := pw_cell_below hb b1
  have f2 : W.cell? ⟨B + 1 + 1, 0, none⟩ = some (.int .i64 want) := pw_cell_below hb b2
  have HC := Aside0.mk (hC.below hb)
  have H := Aside0.mk (hr x hx0 hx1)
  have HS := Aside0.mk hS
  have HX := Aside0.mk (show 0 ≤ start + x ∧ start + x ≤ 1099511627776 from by omega)
  have e1 : IntKind.i64.wrap (start + x) = start + x := IntWalk.i64_in _ (by omega)
  clear hr hC hS hb hd b0 b1 b2
  show Calls _ _ #[.int .i64 x, .pointer (some ⟨B + 1, 0, none⟩), .pointer (some ⟨B, 0, none⟩), .pointer (some ⟨B + 1 + 1, 0, none⟩)] _ _
  go_enter Try.func58, Try.ntmps58
  go_wp2_with fail
  go_quiet ((refine Calls.quiet_of ((before_calls g sums last _ _ (HC.out.below (pw_below_drewN (Below.refl _ _) _)) HS.out HX.out.1 HX.out.2).mono (fun _ _ h => ⟨h.1, h.2.out⟩))))
  go_wp2
  go_ret
  exact ⟨by rw [← H.out]; rfl, Drawn0.step (Drawn0.refl _) _⟩
end Go.Proofs.Ytcflacjidabppaa.Pr

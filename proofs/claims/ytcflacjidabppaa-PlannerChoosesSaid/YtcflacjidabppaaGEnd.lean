/- planner's carrier: end. -/
import Derived.Test.YtcflacjidabppaaGCarrier
import Derived.Laws.EntriesVeiled
namespace Go.Proofs.Ytcflacjidabppaa.Pr
open Go.RowKit Go.Proofs.YtcflacjidabppaaW.PrintWords Go.Proofs.YtcflacjidabppaaW.PrintLast Go.Proofs.YtcflacjidabppaaW.PrintMore
set_option linter.unusedVariables false
set_option linter.unusedSimpArgs false
attribute [local go_sem] max2_int min2_int max_two min_two max_three min_three max_four min_four

/-- t is the first tick from start on before which size more sectors are carried. -/
def EndsAt (sums : List Int) (last start size t : Int) : Prop :=
  start ≤ t ∧ bef sums last start + size ≤ bef sums last t ∧ ∀ u, start ≤ u → u < t → bef sums last u < bef sums last start + size

theorem Car.open_ {w : World} {g : Nat} {sums : List Int} {last : Int} (h : Car w g sums last) (hS : Small sums last) :
    ∃ n : Nat, sums.length = n + 1 ∧ (∃ A c, w.cell? ⟨g, 0, none⟩ = some (.slice A (n + 1) c)) ∧ w.cell? ⟨g, 1, none⟩ = some (.int .i64 last) ∧ g < w.heap.size ∧ n ≤ 5000 := by
  obtain ⟨A, c, hb, hc, hr⟩ := h
  obtain ⟨n, hn⟩ : ∃ n, sums.length = n + 1 := ⟨sums.length - 1, by have := hS.1; omega⟩
  rw [hn] at hb hc hr
  exact ⟨n, hn, ⟨A, c, (blk_cell hb 0).trans rfl⟩, (blk_cell hb 1).trans rfl, blk_lt hb, by have := hS.2.1; omega⟩

set_option maxRecDepth 100000 in
theorem end_zero (g : Nat) (sums : List Int) (last start : Int) (w : World) (hC : Car w g sums last) (hS : Small sums last) (h0 : 0 ≤ start) (h1 : start ≤ 1099511627776) :
    Calls Try.prog 37 #[.pointer (some ⟨g, 0, none⟩), .int .i64 start, .int .i64 0] w fun e w' => e = .returned (.tuple #[.int .i64 start, .bool true]) ∧ Below w.heap.size w w' := by
  have hmf : ∀ (fn : Fn) (first cap : Array Value) (w : World), (Instr.makeFunc fn first cap).run Try.prog w = .ok (.func fn first cap) w := fun _ _ _ _ => rfl
  have HC := Aside0.mk hC
  have HS := Aside0.mk hS
  obtain ⟨n, hn, ⟨A, c, f0⟩, f1, hgl, hn2⟩ := hC.open_ hS
  have HN := Aside0.mk hn
  have hgl1 : g < w.heap.size + 1 := by omega
  have hgl2 : g < w.heap.size + 1 + 1 := by omega
  have hgl3 : g < w.heap.size + 1 + 1 + 1 := by omega
  clear hC hS hn
  go_enter Try.func37, Try.ntmps37
  go_wp2_with fail
  refine (before_calls g sums last start _ (HC.out.below ((below_alloc (below_alloc (Below.refl _ _) _) _))) HS.out h0 h1).mono ?_
  rintro e w1 ⟨rfl, q, rfl⟩
  go_wp2_with fail
  go_ret2
  exact ⟨rfl, by repeat (first | exact Below.refl _ _ | apply below_alloc | apply pw_below_drewN | apply below_drew)⟩

theorem name_world {P : Program} {c : Code} {Q : Exit → Act → World → Prop} {a : Act} {W : World} (h : ∀ W2, Aside0 (W = W2) → Code.wp P c Q a W2) : Code.wp P c Q a W := h W ⟨rfl⟩
theorem cell_al {W : World} (o : Obj) (a : Addr) {v : Value} (ha : a.block < W.heap.size) (h : W.cell? a = some v) : (W.alloc o).cell? a = some v := pw_cell_below (below_alloc (Below.refl _ _) o) h
theorem cell_nw (W : World) (v : Value) (t : TypeId) {n : Nat} (hn : n = W.heap.size) : (W.alloc (.cells #[v] t)).cell? ⟨n, 0, none⟩ = some v := (World.cell?_alloc_at _ _ _ _ hn).trans rfl

/-- Sums that never become less. -/
def Up (sums : List Int) : Prop := ∀ i j : Int, 0 ≤ i → i ≤ j → j < sums.length → rd sums i ≤ rd sums j

theorem bef_low (sums : List Int) (last t : Int) (h : t ≤ (sums.length : Int) - 1) : bef sums last t = rd sums t := by unfold bef; rw [if_pos h]
theorem bef_high (sums : List Int) (last t : Int) (h : (sums.length : Int) - 1 ≤ t) : bef sums last t = rd sums ((sums.length : Int) - 1) + (t - ((sums.length : Int) - 1)) * last := by
  unfold bef
  by_cases e : t ≤ (sums.length : Int) - 1
  · rw [if_pos e, show t = (sums.length : Int) - 1 from by omega, Int.sub_self, Int.zero_mul, Int.add_zero]
  · rw [if_neg e]
theorem bef_mono (sums : List Int) (last : Int) (hS : Small sums last) (hU : Up sums) (a b : Int) (h0 : 0 ≤ a) (h : a ≤ b) : bef sums last a ≤ bef sums last b := by
  have hl := hS.1
  by_cases hb : b ≤ (sums.length : Int) - 1
  · rw [bef_low _ _ _ hb, bef_low _ _ _ (by omega)]
    exact hU a b h0 h (by omega)
  · by_cases ha : a ≤ (sums.length : Int) - 1
    · rw [bef_high _ _ b (by omega), bef_low _ _ a ha]
      have h1 := hU a ((sums.length : Int) - 1) h0 ha (by omega)
      have h2 := Int.mul_nonneg (show 0 ≤ b - ((sums.length : Int) - 1) from by omega) hS.2.2.2.1
      omega
    · rw [bef_high _ _ b (by omega), bef_high _ _ a (by omega)]
      have h2 := Int.mul_le_mul_of_nonneg_right (show a - ((sums.length : Int) - 1) ≤ b - ((sums.length : Int) - 1) from by omega) hS.2.2.2.1
      omega
theorem bef_bound (sums : List Int) (last t : Int) (hS : Small sums last) (h0 : 0 ≤ t) (h1 : t ≤ 1099511627776) : 0 ≤ bef sums last t ∧ bef sums last t ≤ 4503599644370496 := by
  have hl := hS.1
  by_cases hb : t ≤ (sums.length : Int) - 1
  · rw [bef_low _ _ _ hb]
    have := hS.2.2.1 _ (rd_mem sums t h0 (by omega))
    omega
  · rw [bef_high _ _ t (by omega)]
    have := hS.2.2.1 _ (rd_mem sums ((sums.length : Int) - 1) (by omega) (by omega))
    have := mul_bd (t - ((sums.length : Int) - 1)) last (by omega) (by omega) hS.2.2.2.1 hS.2.2.2.2
    omega

set_option maxRecDepth 100000 in
theorem end_search (g : Nat) (sums : List Int) (last start size t : Int) (w : World) (hC : Car w g sums last) (hS : Small sums last) (hU : Up sums) (h0 : 0 ≤ start) (h1 : start ≤ 549755813888)
    (h2 : 0 < size) (h3 : size ≤ 17000000) (hE : EndsAt sums last start size t) (ht : t ≤ (sums.length : Int) - 1) :
    Calls Try.prog 37 #[.pointer (some ⟨g, 0, none⟩), .int .i64 start, .int .i64 size] w fun e w' => e = .returned (.tuple #[.int .i64 t, .bool true]) ∧ Below w.heap.size w w' := by
  have hmf : ∀ (fn : Fn) (first cap : Array Value) (w : World), (Instr.makeFunc fn first cap).run Try.prog w = .ok (.func fn first cap) w := fun _ _ _ _ => rfl
  have HC := Aside0.mk hC
  have HS := Aside0.mk hS
  obtain ⟨n, hn, ⟨A, c, f0⟩, f1, hgl, hn2⟩ := hC.open_ hS
  have hst : start < t := by
    rcases Int.lt_or_eq_of_le hE.1 with h | h
    · exact h
    · subst h; have := hE.2.1; omega
  have hb1 := bef_bound sums last start hS h0 (by omega)
  have hmx : max start (n : Int) = n := by rw [hn] at ht; omega
  have hge : bef sums last start + size ≤ bef sums last n := Int.le_trans hE.2.1 (bef_mono sums last hS hU t n (by omega) (by rw [hn] at ht; omega))
  have hdec : ∀ x, 0 ≤ x → x < (n : Int) - start → decide (bef sums last (start + x) ≥ bef sums last start + size) = decide (t - start ≤ x) := by
    intro x hx0 hx1
    by_cases hx : t - start ≤ x
    · rw [decide_eq_true hx, decide_eq_true (show bef sums last (start + x) ≥ bef sums last start + size from Int.le_trans hE.2.1 (bef_mono sums last hS hU t (start + x) (by omega) (by omega)))]
    · rw [decide_eq_false hx, decide_eq_false (by have := hE.2.2 (start + x) (by omega) (by omega); omega)]
  have HD := Aside0.mk hdec
  have HM := Aside0.mk hmx
  have HN := Aside0.mk hn
  have ht2 : t ≤ (n : Int) := by rw [hn] at ht; omega
  have hgl1 : g < w.heap.size + 1 := by omega
  have hgl2 : g < w.heap.size + 1 + 1 := by omega
  have hgl3 : g < w.heap.size + 1 + 1 + 1 := by omega
  have hz : (size == 0) = false := by simp; omega
  have hq : decide (bef sums last n ≥ bef sums last start + size) = true := decide_eq_true hge
  clear hC hS hn hdec hE hge ht hmx
  have hd1 := Aside0.mk h1
  go_enter Try.func37, Try.ntmps37
  go_wp2_with fail
  refine (before_calls g sums last start _ (HC.out.below ((below_alloc (below_alloc (Below.refl _ _) _) _))) HS.out h0 (by omega)).mono ?_
  rintro e w1 ⟨rfl, q, rfl⟩
  go_wp2_with fail
  refine name_world ?_
  intro W hW
  have hbW : Below w.heap.size w W := by rw [← hW.out]; repeat (first | exact Below.refl _ _ | apply below_alloc | apply pw_below_drewN | apply below_drew)
  have b0 : W.cell? ⟨w.heap.size, 0, none⟩ = some (.int .i64 start) := by rw [← hW.out]; exact cell_al _ _ (by simp; omega) (cell_al _ _ (by simp) (cell_nw _ _ _ rfl))
  have b1 : W.cell? ⟨w.heap.size + 1, 0, none⟩ = some (.func (.func 57) #[.pointer (some ⟨g, 0, none⟩)] #[]) := by rw [← hW.out]; exact cell_al _ _ (by simp) (cell_nw _ _ _ (by simp))
  have b2 : W.cell? ⟨w.heap.size + 1 + 1, 0, none⟩ = some (.int .i64 (bef sums last start + size)) := by rw [← hW.out]; exact cell_nw _ _ _ (by simp)
  have HW := Aside0.mk hbW
  have CW := Aside0.mk (HC.out.below hbW)
  clear hW hbW f0 f1 hU
  have hsn := eq_true (show start < (n : Int) from by omega)
  have HH := Aside0.mk (show (0 : Int) ≤ n ∧ (n : Int) ≤ 1099511627776 from by omega)
  go_quiet ((refine Calls.quiet_of ((before_calls g sums last _ _ (CW.out.below (pw_below_drewN (Below.refl _ _) _)) HS.out HH.out.1 HH.out.2).mono (fun _ _ h => ⟨h.1, h.2.out⟩))))
  go_wp2_with fail
  refine name_world ?_
  intro W2 hW2
  have hb2 : Below W.heap.size W W2 := by rw [← hW2.out]; exact pw_below_drewN (Below.refl _ _) _
  have HB := Aside0.mk (HW.out.trans (hb2.mono HW.out.size))
  have e0 : W2.cell? ⟨w.heap.size, 0, none⟩ = some (.int .i64 start) := pw_cell_below hb2 b0
  have e1 : W2.cell? ⟨w.heap.size + 1, 0, none⟩ = some (.func (.func 57) #[.pointer (some ⟨g, 0, none⟩)] #[]) := pw_cell_below hb2 b1
  have e2 : W2.cell? ⟨w.heap.size + 1 + 1, 0, none⟩ = some (.int .i64 (bef sums last start + size)) := pw_cell_below hb2 b2
  have C2 := Aside0.mk (CW.out.below hb2)
  clear hW2 hb2 b0 b1 b2 CW HW HH
  have s1 : IntKind.i64.wrap ((n : Int) - start) = (n : Int) - start := IntWalk.i64_in _ (by omega)
  have s2 : IntKind.i64.wrap (start + (t - start)) = t := by rw [show start + (t - start) = t from by omega]; exact IntWalk.i64_in _ (by omega)
  have HP := Aside0.mk (fun (q : Nat) => end1_pred g sums last start (bef sums last start + size) ((n : Int) - start) (t - start) w.heap.size (W2.drewN q) (C2.out.below (pw_below_drewN (Below.refl _ _) _)) HS.out h0 (by omega) e0 e1 e2 HD.out)
  have HQ := Aside0.mk (show 0 ≤ t - start ∧ (t - start ≤ (n : Int) - start ∨ t - start = 0) ∧ (n : Int) - start ≤ 4611686018427387904 from by omega)
  clear hq hz hsn
  go_quiet ((refine Calls.quiet_of ((Search_calls Drawn0 Drawn0.refl (fun _ _ _ => drawn_then) 58 _ (t - start) _ _ HQ.out.1 HQ.out.2.1 HQ.out.2.2 (enters_of Try.func58 (by kernel_rfl) rfl) (HP.out _)).mono (fun _ _ h => ⟨h.1, h.2.out⟩))))
  go_wp2
  go_ret2
  exact ⟨rfl, pw_below_drewN HB.out _⟩

theorem bef_far (sums : List Int) (last a u : Int) (ha : (sums.length : Int) - 1 ≤ a) (hu : a ≤ u) : bef sums last u = bef sums last a + (u - a) * last := by
  rw [bef_high _ _ a ha, bef_high _ _ u (by omega)]
  have : (u - ((sums.length : Int) - 1)) * last = (a - ((sums.length : Int) - 1)) * last + (u - a) * last := by rw [← Int.add_mul]; congr 1; omega
  omega

theorem ceil_eq (D L k : Int) (hL : 0 < L) (h1 : D ≤ k * L) (h2 : (k - 1) * L < D) : (D + L - 1) / L = k := by
  have e : (k - 1) * L = k * L - L := by rw [Int.sub_mul, Int.one_mul]
  have a1 : k ≤ (D + L - 1) / L := (Int.le_ediv_iff_mul_le hL).2 (by omega)
  have a2 : (D + L - 1) / L < k + 1 := (Int.ediv_lt_iff_lt_mul hL).2 (by rw [Int.add_mul, Int.one_mul]; omega)
  omega

/-- What the far case needs of its numbers. -/
theorem far_nums (sums : List Int) (last start size t at_ : Int) (hS : Small sums last) (h0 : 0 ≤ start) (h1 : start ≤ 549755813888) (h2 : 0 < size) (h3 : size ≤ 17000000) (hE : EndsAt sums last start size t)
    (ht : ¬ t ≤ (sums.length : Int) - 1) (ha1 : start ≤ at_) (ha2 : (sums.length : Int) - 1 ≤ at_) (ha3 : at_ = start ∨ at_ = (sums.length : Int) - 1) (hU : Up sums) :
    bef sums last at_ < bef sums last start + size ∧ 0 < last ∧ (bef sums last start + size - bef sums last at_ + last - 1) / last = t - at_ ∧ bef sums last start ≤ bef sums last at_ ∧ at_ < t ∧ t ≤ at_ + 17000001 := by
  have hl := hS.1
  have hl2 := hS.2.1
  have hst : start < t := by
    rcases Int.lt_or_eq_of_le hE.1 with h | h
    · exact h
    · subst h; have := hE.2.1; omega
  have hat : at_ < t := by omega
  have b1 := hE.2.2 at_ ha1 hat
  have b2 := bef_mono sums last hS hU start at_ h0 ha1
  have e1 := bef_far sums last at_ t ha2 (by omega)
  have e2 := bef_far sums last at_ (t - 1) ha2 (by omega)
  have b3 := hE.2.1
  have b4 : bef sums last (t - 1) < bef sums last start + size := hE.2.2 (t - 1) (by omega) (by omega)
  have hp : 0 < last := by
    rcases Int.lt_or_eq_of_le hS.2.2.2.1 with h | h
    · exact h
    · have : (t - at_) * last = 0 := by rw [← h, Int.mul_zero]
      omega
  have e3 : (t - 1 - at_) * last = (t - at_ - 1) * last := by congr 1; omega
  rw [e3] at e2
  refine ⟨b1, hp, ceil_eq _ _ _ hp (by omega) (by omega), b2, hat, ?_⟩
  rw [← e3] at e2
  have : (t - 1 - at_) * 1 ≤ (t - 1 - at_) * last := Int.mul_le_mul_of_nonneg_left (by omega) (by omega)
  omega

set_option maxHeartbeats 1600000 in
set_option maxRecDepth 100000 in
theorem end_far (g : Nat) (sums : List Int) (last start size t : Int) (w : World) (hC : Car w g sums last) (hS : Small sums last) (hU : Up sums) (h0 : 0 ≤ start) (h1 : start ≤ 549755813888)
    (h2 : 0 < size) (h3 : size ≤ 17000000) (hE : EndsAt sums last start size t) (ht : ¬ t ≤ (sums.length : Int) - 1) :
    Calls Try.prog 37 #[.pointer (some ⟨g, 0, none⟩), .int .i64 start, .int .i64 size] w fun e w' => e = .returned (.tuple #[.int .i64 t, .bool true]) ∧ Below w.heap.size w w' := by
  have hmf : ∀ (fn : Fn) (first cap : Array Value) (w : World), (Instr.makeFunc fn first cap).run Try.prog w = .ok (.func fn first cap) w := fun _ _ _ _ => rfl
  have HC := Aside0.mk hC
  have HS := Aside0.mk hS
  obtain ⟨n, hn, ⟨A, c, f0⟩, f1, hgl, hn2⟩ := hC.open_ hS
  have hn' : (sums.length : Int) - 1 = n := by omega
  obtain ⟨at_, hat⟩ : ∃ at_ : Int, (start < (n : Int) ∧ at_ = n) ∨ (¬ start < (n : Int) ∧ start = at_) := by
    by_cases h : start < (n : Int)
    · exact ⟨_, .inl ⟨h, rfl⟩⟩
    · exact ⟨_, .inr ⟨h, rfl⟩⟩
  obtain ⟨F1, F2, F3, F4, F5, F6⟩ := far_nums sums last start size t at_ hS h0 h1 h2 h3 hE ht (by omega) (by omega) (by omega) hU
  have hb1 := bef_bound sums last start hS h0 (by omega)
  have hb2 := bef_bound sums last at_ hS (by omega) (by omega)
  have hgl1 : g < w.heap.size + 1 := by omega
  have hgl2 : g < w.heap.size + 1 + 1 := by omega
  have hgl3 : g < w.heap.size + 1 + 1 + 1 := by omega
  have hz : (size == 0) = false := by simp; omega
  have hlz : (last == 0) = false := by simp; omega
  have hl4 := hS.2.2.2.2
  have hq : decide (bef sums last at_ ≥ bef sums last start + size) = false := decide_eq_false (by omega)
  have HH := Aside0.mk (show (0 : Int) ≤ at_ ∧ at_ ≤ 1099511627776 from by omega)
  have HF := Aside0.mk F3
  have HW64 := Aside0.mk (show wrap64 (at_ + (t - at_)) = t from by rw [show at_ + (t - at_) = t from by omega]; unfold wrap64; omega)
  clear hC hS hn hE ht F3 hn'
  have hd1 := Aside0.mk h1
  go_enter Try.func37, Try.ntmps37
  go_wp2_with fail
  refine (before_calls g sums last start _ (HC.out.below ((below_alloc (below_alloc (Below.refl _ _) _) _))) HS.out h0 (by omega)).mono ?_
  rintro e w1 ⟨rfl, q, rfl⟩
  go_wp2_with fail
  refine name_world ?_
  intro W hW
  have hbW : Below w.heap.size w W := by rw [← hW.out]; repeat (first | exact Below.refl _ _ | apply below_alloc | apply pw_below_drewN | apply below_drew)
  have b0 : W.cell? ⟨w.heap.size, 0, none⟩ = some (.int .i64 start) := by rw [← hW.out]; exact cell_al _ _ (by simp; omega) (cell_al _ _ (by simp) (cell_nw _ _ _ rfl))
  have b1 : W.cell? ⟨w.heap.size + 1, 0, none⟩ = some (.func (.func 57) #[.pointer (some ⟨g, 0, none⟩)] #[]) := by rw [← hW.out]; exact cell_al _ _ (by simp) (cell_nw _ _ _ (by simp))
  have b2 : W.cell? ⟨w.heap.size + 1 + 1, 0, none⟩ = some (.int .i64 (bef sums last start + size)) := by rw [← hW.out]; exact cell_nw _ _ _ (by simp)
  have g1 : W.cell? ⟨g, 1, none⟩ = some (.int .i64 last) := pw_cell_below hbW f1
  have HW := Aside0.mk hbW
  have CW := Aside0.mk (HC.out.below hbW)
  clear hW hbW f0 f1 hU
  rcases hat with ⟨hsn, rfl⟩ | ⟨hsn, rfl⟩
  · replace hsn := eq_true (show start < (n : Int) from by omega)
    go_quiet ((refine Calls.quiet_of ((before_calls g sums last _ _ (CW.out.below (pw_below_drewN (Below.refl _ _) _)) HS.out HH.out.1 HH.out.2).mono (fun _ _ h => ⟨h.1, h.2.out⟩))))
    go_wp2_with fail
    refine name_world ?_
    intro W2 hW2
    have hb2 : Below W.heap.size W W2 := by rw [← hW2.out]; exact pw_below_drewN (Below.refl _ _) _
    have HB := Aside0.mk (HW.out.trans (hb2.mono HW.out.size))
    have e0 : W2.cell? ⟨w.heap.size, 0, none⟩ = some (.int .i64 start) := pw_cell_below hb2 b0
    have e1 : W2.cell? ⟨w.heap.size + 1, 0, none⟩ = some (.func (.func 57) #[.pointer (some ⟨g, 0, none⟩)] #[]) := pw_cell_below hb2 b1
    have e2 : W2.cell? ⟨w.heap.size + 1 + 1, 0, none⟩ = some (.int .i64 (bef sums last start + size)) := pw_cell_below hb2 b2
    have e3 : W2.cell? ⟨g, 1, none⟩ = some (.int .i64 last) := pw_cell_below hb2 g1
    have C2 := Aside0.mk (CW.out.below hb2)
    clear hW2 hb2 b0 b1 b2 g1 CW HW
    go_quiet ((refine Calls.quiet_of ((before_calls g sums last _ _ (C2.out.below (pw_below_drewN (Below.refl _ _) _)) HS.out HH.out.1 HH.out.2).mono (fun _ _ h => ⟨h.1, h.2.out⟩))))
    go_wp2_with fail
    go_ret2
    refine ⟨?_, pw_below_drewN HB.out _⟩
    show Ending.returned (.tuple #[.int .i64 (wrap64 ((n : Int) + (bef sums last start + size - bef sums last (n : Int) + last - 1) / last)), .bool true]) = _
    rw [HF.out, HW64.out]
  · replace hsn := eq_false (show ¬ start < (n : Int) from by omega)
    go_quiet ((refine Calls.quiet_of ((before_calls g sums last _ _ (CW.out.below (pw_below_drewN (Below.refl _ _) _)) HS.out HH.out.1 HH.out.2).mono (fun _ _ h => ⟨h.1, h.2.out⟩))))
    go_wp2_with fail
    refine name_world ?_
    intro W2 hW2
    have hb2 : Below W.heap.size W W2 := by rw [← hW2.out]; exact pw_below_drewN (Below.refl _ _) _
    have HB := Aside0.mk (HW.out.trans (hb2.mono HW.out.size))
    have e0 : W2.cell? ⟨w.heap.size, 0, none⟩ = some (.int .i64 start) := pw_cell_below hb2 b0
    have e1 : W2.cell? ⟨w.heap.size + 1, 0, none⟩ = some (.func (.func 57) #[.pointer (some ⟨g, 0, none⟩)] #[]) := pw_cell_below hb2 b1
    have e2 : W2.cell? ⟨w.heap.size + 1 + 1, 0, none⟩ = some (.int .i64 (bef sums last start + size)) := pw_cell_below hb2 b2
    have e3 : W2.cell? ⟨g, 1, none⟩ = some (.int .i64 last) := pw_cell_below hb2 g1
    have C2 := Aside0.mk (CW.out.below hb2)
    clear hW2 hb2 b0 b1 b2 g1 CW HW
    go_quiet ((refine Calls.quiet_of ((before_calls g sums last _ _ (C2.out.below (pw_below_drewN (Below.refl _ _) _)) HS.out HH.out.1 HH.out.2).mono (fun _ _ h => ⟨h.1, h.2.out⟩))))
    go_wp2_with fail
    go_ret2
    refine ⟨?_, pw_below_drewN HB.out _⟩
    show Ending.returned (.tuple #[.int .i64 (wrap64 (start + (bef sums last start + size - bef sums last start + last - 1) / last)), .bool true]) = _
    rw [HF.out, HW64.out]

set_option maxHeartbeats 1600000 in
set_option maxRecDepth 100000 in
theorem end_never (g : Nat) (sums : List Int) (last start size : Int) (w : World) (hC : Car w g sums last) (hS : Small sums last) (hU : Up sums) (h0 : 0 ≤ start) (h1 : start ≤ 549755813888)
    (h2 : 0 < size) (h3 : size ≤ 17000000) (hE : ∀ u, start ≤ u → bef sums last u < bef sums last start + size) :
    Calls Try.prog 37 #[.pointer (some ⟨g, 0, none⟩), .int .i64 start, .int .i64 size] w fun e w' => e = .returned (.tuple #[.int .i64 0, .bool false]) ∧ Below w.heap.size w w' := by
  have hmf : ∀ (fn : Fn) (first cap : Array Value) (w : World), (Instr.makeFunc fn first cap).run Try.prog w = .ok (.func fn first cap) w := fun _ _ _ _ => rfl
  have HC := Aside0.mk hC
  have HS := Aside0.mk hS
  obtain ⟨n, hn, ⟨A, c, f0⟩, f1, hgl, hn2⟩ := hC.open_ hS
  obtain ⟨at_, hat⟩ : ∃ at_ : Int, (start < (n : Int) ∧ at_ = n) ∨ (¬ start < (n : Int) ∧ start = at_) := by
    by_cases h : start < (n : Int)
    · exact ⟨_, .inl ⟨h, rfl⟩⟩
    · exact ⟨_, .inr ⟨h, rfl⟩⟩
  have hb1 := bef_bound sums last start hS h0 (by omega)
  have hla : last = 0 := by
    rcases Int.lt_or_eq_of_le hS.2.2.2.1 with h | h
    · have e := bef_far sums last at_ (at_ + 20000000) (by omega) (by omega)
      have e2 := hE (at_ + 20000000) (by omega)
      have e3 := bef_mono sums last hS hU start at_ h0 (by omega)
      have e4 : (at_ + 20000000 - at_) * 1 ≤ (at_ + 20000000 - at_) * last := Int.mul_le_mul_of_nonneg_left (by omega) (by omega)
      omega
    · exact h.symm
  have hgl1 : g < w.heap.size + 1 := by omega
  have hgl2 : g < w.heap.size + 1 + 1 := by omega
  have hgl3 : g < w.heap.size + 1 + 1 + 1 := by omega
  have hz : (size == 0) = false := by simp; omega
  have hlz : (last == 0) = true := by simp; omega
  have hq : decide (bef sums last at_ ≥ bef sums last start + size) = false := decide_eq_false (by have := hE at_ (by omega); omega)
  have HH := Aside0.mk (show (0 : Int) ≤ at_ ∧ at_ ≤ 1099511627776 from by omega)
  clear hC hS hn hE hla
  have hd1 := Aside0.mk h1
  go_enter Try.func37, Try.ntmps37
  go_wp2_with fail
  refine (before_calls g sums last start _ (HC.out.below ((below_alloc (below_alloc (Below.refl _ _) _) _))) HS.out h0 (by omega)).mono ?_
  rintro e w1 ⟨rfl, q, rfl⟩
  go_wp2_with fail
  refine name_world ?_
  intro W hW
  have hbW : Below w.heap.size w W := by rw [← hW.out]; repeat (first | exact Below.refl _ _ | apply below_alloc | apply pw_below_drewN | apply below_drew)
  have b0 : W.cell? ⟨w.heap.size, 0, none⟩ = some (.int .i64 start) := by rw [← hW.out]; exact cell_al _ _ (by simp; omega) (cell_al _ _ (by simp) (cell_nw _ _ _ rfl))
  have b1 : W.cell? ⟨w.heap.size + 1, 0, none⟩ = some (.func (.func 57) #[.pointer (some ⟨g, 0, none⟩)] #[]) := by rw [← hW.out]; exact cell_al _ _ (by simp) (cell_nw _ _ _ (by simp))
  have b2 : W.cell? ⟨w.heap.size + 1 + 1, 0, none⟩ = some (.int .i64 (bef sums last start + size)) := by rw [← hW.out]; exact cell_nw _ _ _ (by simp)
  have g1 : W.cell? ⟨g, 1, none⟩ = some (.int .i64 last) := pw_cell_below hbW f1
  have HW := Aside0.mk hbW
  have CW := Aside0.mk (HC.out.below hbW)
  clear hW hbW f0 f1 hU
  rcases hat with ⟨hsn, rfl⟩ | ⟨hsn, rfl⟩
  · replace hsn := eq_true (show start < (n : Int) from by omega)
    go_quiet ((refine Calls.quiet_of ((before_calls g sums last _ _ (CW.out.below (pw_below_drewN (Below.refl _ _) _)) HS.out HH.out.1 HH.out.2).mono (fun _ _ h => ⟨h.1, h.2.out⟩))))
    go_wp2
    go_ret2
    exact ⟨rfl, pw_below_drewN HW.out _⟩
  · replace hsn := eq_false (show ¬ start < (n : Int) from by omega)
    go_quiet ((refine Calls.quiet_of ((before_calls g sums last _ _ (CW.out.below (pw_below_drewN (Below.refl _ _) _)) HS.out HH.out.1 HH.out.2).mono (fun _ _ h => ⟨h.1, h.2.out⟩))))
    go_wp2
    go_ret2
    exact ⟨rfl, pw_below_drewN HW.out _⟩
end Go.Proofs.Ytcflacjidabppaa.Pr

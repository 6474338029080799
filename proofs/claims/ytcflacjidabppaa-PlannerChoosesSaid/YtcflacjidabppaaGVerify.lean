/- planner.Verify. -/
import Derived.Test.YtcflacjidabppaaGPlan
import Derived.Test.YtcflacjidabppaaF25
namespace Go.Proofs.Ytcflacjidabppaa.Pr
open Go.RowKit Go.Proofs.YtcflacjidabppaaW.PrintWords Go.Proofs.YtcflacjidabppaaW.PrintLast Go.Proofs.YtcflacjidabppaaW.PrintMore
set_option linter.unusedVariables false
set_option linter.unusedSimpArgs false
attribute [local go_sem] max2_int min2_int max_two min_two max_three min_three max_four min_four

theorem Equal_l0 (l m : List Int) (hlm : l.length = m.length) (hn : l.length ≤ 9223372036854775807) (d : Nat) : ∀ (k : Nat) (i : Int), 0 ≤ i → i ≤ l.length → (l.length : Int) - i = d → d < k →
    slices_Equal_int_int.l0 k l m (l.length : Int) i = some (decide (l.drop i.toNat = m.drop i.toNat)) := by
  induction d with
  | zero =>
    intro k i h0 h1 hd hk
    obtain ⟨k, rfl⟩ : ∃ m, k = m + 1 := ⟨k - 1, by omega⟩
    simp only [slices_Equal_int_int.l0]
    rw [if_neg (by omega), List.drop_of_length_le (by omega), List.drop_of_length_le (by omega)]
    rfl
  | succ d ih =>
    intro k i h0 h1 hd hk
    obtain ⟨k, rfl⟩ : ∃ m, k = m + 1 := ⟨k - 1, by omega⟩
    simp only [slices_Equal_int_int.l0]
    have hl : i.toNat < l.length := by omega
    have hm : i.toNat < m.length := by omega
    have el : rd l i = l[i.toNat] := by simp [rd, List.getD_eq_getElem?_getD, List.getElem?_eq_getElem hl]
    have em : rd m i = m[i.toNat] := by simp [rd, List.getD_eq_getElem?_getD, List.getElem?_eq_getElem hm]
    have e1 : l.drop i.toNat = rd l i :: l.drop (i + 1).toNat := by rw [el, List.drop_eq_getElem_cons hl, show (i + 1).toNat = i.toNat + 1 from by omega]
    have e2 : m.drop i.toNat = rd m i :: m.drop (i + 1).toNat := by rw [em, List.drop_eq_getElem_cons hm, show (i + 1).toNat = i.toNat + 1 from by omega]
    have ew : wrap64 (i + 1) = i + 1 := by unfold wrap64; omega
    have h2 := ih k (i + 1) (by omega) (by omega) (by omega) (by omega)
    by_cases hx : rd l i = rd m i
    · simp only [if_pos (show i < (l.length : Int) by omega), if_pos h0, if_pos (show i < (m.length : Int) by omega), ew, h2, e1, e2, hx]
      simp
    · simp only [if_pos (show i < (l.length : Int) by omega), if_pos h0, if_pos (show i < (m.length : Int) by omega), e1, e2]
      simp [hx]
theorem Equal_f (l m : List Int) (hn : l.length ≤ 9223372036854775807) : ∀ k, l.length < k → slices_Equal_int_int.f k l m = some (decide (l = m)) := by
  intro k hk
  unfold slices_Equal_int_int.f
  by_cases h : (l.length : Int) = (m.length : Int)
  · rw [if_pos h]
    have := Equal_l0 l m (by omega) hn l.length k 0 (by omega) (by omega) (by omega) hk
    simpa using this
  · rw [if_neg h]
    rw [decide_eq_false (fun e => h (by rw [e]))]

/-- The error of a plan against the one that is right. -/
def verifyV (a0 a1 a2 a3 : List Int) (a4 : Int) (r1 r2 r3 r4 : List Int) (r5 : Int) : Int :=
  if a0.length = r1.length ∧ a1.length = r2.length ∧ a2.length = r3.length ∧ a3.length = r4.length then (if a4 = r5 ∧ a0 = r1 ∧ a1 = r2 ∧ a2 = r3 ∧ a3 = r4 then 0 else 22) else 6
def planner_Verify.f (k : Nat) (l0_0 : List Int) (l0_1 : List Int) (a0_2 : Int) (a0_3 : Int) (a0_4 : Int) (l1_0 : List Int) (l1_1 : List Int) (l1_2 : List Int) (l1_3 : List Int) (a1_4 : Int) : Option Int :=
  (planner_Plan.f k l0_0 l0_1 a0_2 a0_3 a0_4).bind fun p => if p.2.2.2.2.2 = 0 then some (verifyV l1_0 l1_1 l1_2 l1_3 a1_4 p.1 p.2.1 p.2.2.1 p.2.2.2.1 p.2.2.2.2.1) else some p.2.2.2.2.2
theorem planner_Verify.mono : ∀ a0 a1 a2 a3 a4 a5 a6 a7 a8 a9 k, LeO (planner_Verify.f k a0 a1 a2 a3 a4 a5 a6 a7 a8 a9) (planner_Verify.f (k + 1) a0 a1 a2 a3 a4 a5 a6 a7 a8 a9) := by
  intro a0 a1 a2 a3 a4 a5 a6 a7 a8 a9 k
  unfold planner_Verify.f
  exact LeO.bind (planner_Plan.mono _ _ _ _ _ _) (fun t => LeO.refl _)

set_option maxHeartbeats 4000000 in
set_option maxRecDepth 100000 in
theorem planner_Verify.calls (k : Nat) (A0_0 : Option Addr) (c0_0 : Nat) (l0_0 : List Int) (A0_1 : Option Addr) (c0_1 : Nat) (l0_1 : List Int) (a0_2 : Int) (a0_3 : Int) (a0_4 : Int) (A1_0 : Option Addr) (c1_0 : Nat) (l1_0 : List Int) (A1_1 : Option Addr) (c1_1 : Nat) (l1_1 : List Int) (A1_2 : Option Addr) (c1_2 : Nat) (l1_2 : List Int) (A1_3 : Option Addr) (c1_3 : Nat) (l1_3 : List Int) (a1_4 : Int) (r : Int) (w : World) (hr0_0 : Kd.C (Kd.int .i64) w A0_0 l0_0.length l0_0) (hc0_0 : l0_0.length ≤ c0_0) (hr0_1 : Kd.C (Kd.int .i64) w A0_1 l0_1.length l0_1) (hc0_1 : l0_1.length ≤ c0_1) (hr1_0 : Kd.C (Kd.int .i64) w A1_0 l1_0.length l1_0) (hc1_0 : l1_0.length ≤ c1_0) (hr1_1 : Kd.C (Kd.int .i64) w A1_1 l1_1.length l1_1) (hc1_1 : l1_1.length ≤ c1_1) (hr1_2 : Kd.C (Kd.int .i64) w A1_2 l1_2.length l1_2) (hc1_2 : l1_2.length ≤ c1_2) (hr1_3 : Kd.C (Kd.int .i64) w A1_3 l1_3.length l1_3) (hc1_3 : l1_3.length ≤ c1_3) (h : planner_Verify.f k l0_0 l0_1 a0_2 a0_3 a0_4 l1_0 l1_1 l1_2 l1_3 a1_4 = some r) :
    Calls Try.prog 21 #[.agg #[.slice A0_0 l0_0.length c0_0, .slice A0_1 l0_1.length c0_1, .int .i64 a0_2, .int .i64 a0_3, .int .i64 a0_4], .agg #[.slice A1_0 l1_0.length c1_0, .slice A1_1 l1_1.length c1_1, .slice A1_2 l1_2.length c1_2, .slice A1_3 l1_3.length c1_3, .int .i64 a1_4]] w fun e w' => e = .returned (.int .i64 r) ∧ Below w.heap.size w w' := by
  unfold planner_Verify.f at h
  obtain ⟨⟨r1, r2, r3, r4, r5, r6⟩, hp, h⟩ := Option.bind_eq_some_iff.1 h
  have HR := Aside0.mk (And.intro hr0_0 (And.intro hr0_1 (And.intro hr1_0 (And.intro hr1_1 (And.intro hr1_2 hr1_3)))))
  have HP := Aside0.mk hp
  have HMX := Aside0.mk (And.intro (Kd.C_max hr1_0) (And.intro (Kd.C_max hr1_1) (And.intro (Kd.C_max hr1_2) (Kd.C_max hr1_3))))
  clear hr0_0 hr0_1 hr1_0 hr1_1 hr1_2 hr1_3 hp
  go_enter Try.func21, Try.ntmps21
  go_wp2_with fail
  refine (planner_Plan.calls k A0_0 c0_0 l0_0 A0_1 c0_1 l0_1 a0_2 a0_3 a0_4 r1 r2 r3 r4 r5 r6 _ (Kd.C_below HR.out.1 (by repeat (first | exact Below.refl _ _ | apply below_alloc))) hc0_0 (Kd.C_below HR.out.2.1 (by repeat (first | exact Below.refl _ _ | apply below_alloc))) hc0_1 HP.out).mono ?_
  rintro e w1 ⟨v0, v1, v2, v3, rfl, R0, R1, R2, R3, hb⟩
  have hbk := blk_below (g := w.heap.size + 1) (o := .cells #[.slice A1_0 l1_0.length c1_0, .slice A1_1 l1_1.length c1_1, .slice A1_2 l1_2.length c1_2, .slice A1_3 l1_3.length c1_3, .int .i64 a1_4] 28 (0, 0)) (by have := heap_alloc_new (w.alloc (.cells #[.slice A0_0 l0_0.length c0_0, .slice A0_1 l0_1.length c0_1, .int .i64 a0_2, .int .i64 a0_3, .int .i64 a0_4] 24)) (.cells #[.slice A1_0 l1_0.length c1_0, .slice A1_1 l1_1.length c1_1, .slice A1_2 l1_2.length c1_2, .slice A1_3 l1_3.length c1_3, .int .i64 a1_4] 28); rw [World.size_alloc] at this; exact this) hb
  have hb0 : Below w.heap.size w w1 := Below.trans (by repeat (first | exact Below.refl _ _ | apply below_alloc)) (hb.mono (by simp; omega))
  have HSZ := Aside0.mk (show w.heap.size + 2 ≤ w1.heap.size from by have := hb.size; simpa using this)
  have hgl : w.heap.size + 1 < w1.heap.size := by have := HSZ.out; omega
  have hgl2 : w.heap.size + 1 < w1.heap.size + 1 := by omega
  obtain ⟨B0, d0, rfl, hd0, Q0⟩ := Kd.R_reads R0
  obtain ⟨B1, d1, rfl, hd1, Q1⟩ := Kd.R_reads R1
  obtain ⟨B2, d2, rfl, hd2, Q2⟩ := Kd.R_reads R2
  obtain ⟨B3, d3, rfl, hd3, Q3⟩ := Kd.R_reads R3
  have t0 := (blk_cell hbk 0).trans rfl
  have t1 := (blk_cell hbk 1).trans rfl
  have t2 := (blk_cell hbk 2).trans rfl
  have t3 := (blk_cell hbk 3).trans rfl
  have t4 := (blk_cell hbk 4).trans rfl
  have HB1 := Aside0.mk hb0
  have QQ := Aside0.mk (And.intro Q0 (And.intro Q1 (And.intro Q2 Q3)))
  clear hb hb0 R0 R1 R2 R3 Q0 Q1 Q2 Q3 hbk
  by_cases hz : r6 = 0
  · subst hz
    rw [if_pos rfl] at h
    have HV := Aside0.mk (Option.some.inj h)
    clear h
    go_wp2_with fail
    refine name_world ?_
    intro W hW
    have hbW : Below w1.heap.size w1 W := by rw [← hW.out]; exact below_alloc (below_alloc (Below.refl _ _) _) _
    have hL : W.heap[w1.heap.size + 1]? = some (.cells #[.slice A1_0 l1_0.length c1_0, .slice B0 r1.length d0, .slice A1_1 l1_1.length c1_1, .slice B1 r2.length d1, .slice A1_2 l1_2.length c1_2, .slice B2 r3.length d2, .slice A1_3 l1_3.length c1_3, .slice B3 r4.length d3] 75 (0, 0)) := by
      rw [← hW.out]
      have := heap_alloc_new (w1.alloc (.cells #[.slice B0 r1.length d0, .slice B1 r2.length d1, .slice B2 r3.length d2, .slice B3 r4.length d3, .int .i64 r5] 28)) (.cells #[.slice A1_0 l1_0.length c1_0, .slice B0 r1.length d0, .slice A1_1 l1_1.length c1_1, .slice B1 r2.length d1, .slice A1_2 l1_2.length c1_2, .slice B2 r3.length d2, .slice A1_3 l1_3.length c1_3, .slice B3 r4.length d3] 75)
      rw [World.size_alloc] at this
      exact this
    have HL := Aside0.mk hL
    have HWB := Aside0.mk (HB1.out.trans (hbW.mono HB1.out.size))
    have HW1 := Aside0.mk hbW
    clear hW hbW hL t0 t1 t2 t3 t4
    go_loopw [8, 47] (fun s v wr => ∃ (i : Nat) (b : Bool), i ≤ 4 ∧ v = .int .i64 i ∧ s = .bool b ∧ Aside0 ((b = true ↔ a1_4 = r5 ∧ (1 ≤ i → l1_0 = r1) ∧ (2 ≤ i → l1_1 = r2) ∧ (3 ≤ i → l1_2 = r3) ∧ (4 ≤ i → l1_3 = r4)) ∧ (1 ≤ i → l1_0.length = r1.length) ∧ (2 ≤ i → l1_1.length = r2.length) ∧ (3 ≤ i → l1_2.length = r3.length) ∧ (4 ≤ i → l1_3.length = r4.length)) ∧ Aside0 (Below W.heap.size W wr)) (fun _ v _ => 4 - (intOf v).toNat)
    case atStart => exact ⟨0, _, by omega, rfl, rfl, ⟨by simp⟩, ⟨Below.refl _ _⟩⟩
    case round =>
      obtain ⟨i, b, hi, rfl, rfl, hI, hB⟩ := hrel
      have hlb := blk_below HL.out hB.out
      have e0 := (blk_cell hlb 0).trans rfl
      have e1 := (blk_cell hlb 1).trans rfl
      have e2 := (blk_cell hlb 2).trans rfl
      have e3 := (blk_cell hlb 3).trans rfl
      have e4 := (blk_cell hlb 4).trans rfl
      have e5 := (blk_cell hlb 5).trans rfl
      have e6 := (blk_cell hlb 6).trans rfl
      have e7 := (blk_cell hlb 7).trans rfl
      clear hlb
      by_cases h4 : i < 4
      · obtain rfl | rfl | rfl | rfl : i = 0 ∨ i = 1 ∨ i = 2 ∨ i = 3 := by omega
        · clear hi h4
          by_cases hlen : l1_0.length = r1.length
          · have hq : (l1_0.length == r1.length) = true := by simpa using hlen
            have hq' : (l1_0.length != r1.length) = false := by simpa using hlen
            have HLEN := Aside0.mk hlen
            clear hlen
            cases b with
            | true =>
              go_wp2_with fail
              refine (slices_Equal_int_int.calls (l1_0.length + 1) A1_0 c1_0 l1_0 B0 d0 r1 _ _ (Kd.C_below HR.out.2.2.1 ((HWB.out.trans (hB.out.mono HWB.out.size)).alloc (Nat.le_trans HWB.out.size hB.out.size) _)) hc1_0 (Kd.C_below QQ.out.1 ((HW1.out.trans (hB.out.mono HW1.out.size)).alloc (Nat.le_trans HW1.out.size hB.out.size) _)) hd0 (Equal_f l1_0 r1 (by have := HMX.out.1; have := HLEN.out; omega) _ (by omega))).mono ?_
              rintro e w5 ⟨rfl, hd5⟩
              have hb5 : Below wr.heap.size wr w5 := (below_alloc (Below.refl _ _) _).trans (hd5.below.mono (by simp))
              have HB5 := Aside0.mk (hB.out.trans (hb5.mono hB.out.size))
              clear hd5 hb5
              go_wp2
              go_roundw
              case rel => exact ⟨1, _, by omega, rfl, rfl, ⟨by have h1 := hI.out; have h2 := HLEN.out; simp at h1 ⊢; first | (simp [h1, h2]; done) | grind⟩, HB5⟩
              case measure => simp [intOf]
            | false =>
              go_wp2
              go_roundw
              case rel => exact ⟨1, _, by omega, rfl, rfl, ⟨by have h1 := hI.out; have h2 := HLEN.out; simp at h1 ⊢; first | (simp [h1, h2]; done) | grind⟩, ⟨below_alloc hB.out _⟩⟩
              case measure => simp [intOf]
          · have hq : (l1_0.length == r1.length) = false := by simpa using hlen
            have hq' : (l1_0.length != r1.length) = true := by simpa using hlen
            have hv : r = 6 := by
              rw [← HV.out]
              unfold verifyV
              rw [if_neg (by rintro ⟨a, b, c, d⟩; exact hlen (by assumption))]
            have HV6 := Aside0.mk hv
            clear hlen hv
            go_wp2
            go_ret
            exact ⟨by rw [HV6.out]; rfl, ((HWB.out.trans (hB.out.mono HWB.out.size)).alloc (Nat.le_trans HWB.out.size hB.out.size) _)⟩
        · clear hi h4
          by_cases hlen : l1_1.length = r2.length
          · have hq : (l1_1.length == r2.length) = true := by simpa using hlen
            have hq' : (l1_1.length != r2.length) = false := by simpa using hlen
            have HLEN := Aside0.mk hlen
            clear hlen
            cases b with
            | true =>
              go_wp2_with fail
              refine (slices_Equal_int_int.calls (l1_1.length + 1) A1_1 c1_1 l1_1 B1 d1 r2 _ _ (Kd.C_below HR.out.2.2.2.1 ((HWB.out.trans (hB.out.mono HWB.out.size)).alloc (Nat.le_trans HWB.out.size hB.out.size) _)) hc1_1 (Kd.C_below QQ.out.2.1 ((HW1.out.trans (hB.out.mono HW1.out.size)).alloc (Nat.le_trans HW1.out.size hB.out.size) _)) hd1 (Equal_f l1_1 r2 (by have := HMX.out.2.1; have := HLEN.out; omega) _ (by omega))).mono ?_
              rintro e w5 ⟨rfl, hd5⟩
              have hb5 : Below wr.heap.size wr w5 := (below_alloc (Below.refl _ _) _).trans (hd5.below.mono (by simp))
              have HB5 := Aside0.mk (hB.out.trans (hb5.mono hB.out.size))
              clear hd5 hb5
              go_wp2
              go_roundw
              case rel => exact ⟨2, _, by omega, rfl, rfl, ⟨by have h1 := hI.out; have h2 := HLEN.out; simp at h1 ⊢; first | (simp [h1, h2]; done) | grind⟩, HB5⟩
              case measure => simp [intOf]
            | false =>
              go_wp2
              go_roundw
              case rel => exact ⟨2, _, by omega, rfl, rfl, ⟨by have h1 := hI.out; have h2 := HLEN.out; simp at h1 ⊢; first | (simp [h1, h2]; done) | grind⟩, ⟨below_alloc hB.out _⟩⟩
              case measure => simp [intOf]
          · have hq : (l1_1.length == r2.length) = false := by simpa using hlen
            have hq' : (l1_1.length != r2.length) = true := by simpa using hlen
            have hv : r = 6 := by
              rw [← HV.out]
              unfold verifyV
              rw [if_neg (by rintro ⟨a, b, c, d⟩; exact hlen (by assumption))]
            have HV6 := Aside0.mk hv
            clear hlen hv
            go_wp2
            go_ret
            exact ⟨by rw [HV6.out]; rfl, ((HWB.out.trans (hB.out.mono HWB.out.size)).alloc (Nat.le_trans HWB.out.size hB.out.size) _)⟩
        · clear hi h4
          by_cases hlen : l1_2.length = r3.length
          · have hq : (l1_2.length == r3.length) = true := by simpa using hlen
            have hq' : (l1_2.length != r3.length) = false := by simpa using hlen
            have HLEN := Aside0.mk hlen
            clear hlen
            cases b with
            | true =>
              go_wp2_with fail
              refine (slices_Equal_int_int.calls (l1_2.length + 1) A1_2 c1_2 l1_2 B2 d2 r3 _ _ (Kd.C_below HR.out.2.2.2.2.1 ((HWB.out.trans (hB.out.mono HWB.out.size)).alloc (Nat.le_trans HWB.out.size hB.out.size) _)) hc1_2 (Kd.C_below QQ.out.2.2.1 ((HW1.out.trans (hB.out.mono HW1.out.size)).alloc (Nat.le_trans HW1.out.size hB.out.size) _)) hd2 (Equal_f l1_2 r3 (by have := HMX.out.2.2.1; have := HLEN.out; omega) _ (by omega))).mono ?_
              rintro e w5 ⟨rfl, hd5⟩
              have hb5 : Below wr.heap.size wr w5 := (below_alloc (Below.refl _ _) _).trans (hd5.below.mono (by simp))
              have HB5 := Aside0.mk (hB.out.trans (hb5.mono hB.out.size))
              clear hd5 hb5
              go_wp2
              go_roundw
              case rel => exact ⟨3, _, by omega, rfl, rfl, ⟨by have h1 := hI.out; have h2 := HLEN.out; simp at h1 ⊢; first | (simp [h1, h2]; done) | grind⟩, HB5⟩
              case measure => simp [intOf]
            | false =>
              go_wp2
              go_roundw
              case rel => exact ⟨3, _, by omega, rfl, rfl, ⟨by have h1 := hI.out; have h2 := HLEN.out; simp at h1 ⊢; first | (simp [h1, h2]; done) | grind⟩, ⟨below_alloc hB.out _⟩⟩
              case measure => simp [intOf]
          · have hq : (l1_2.length == r3.length) = false := by simpa using hlen
            have hq' : (l1_2.length != r3.length) = true := by simpa using hlen
            have hv : r = 6 := by
              rw [← HV.out]
              unfold verifyV
              rw [if_neg (by rintro ⟨a, b, c, d⟩; exact hlen (by assumption))]
            have HV6 := Aside0.mk hv
            clear hlen hv
            go_wp2
            go_ret
            exact ⟨by rw [HV6.out]; rfl, ((HWB.out.trans (hB.out.mono HWB.out.size)).alloc (Nat.le_trans HWB.out.size hB.out.size) _)⟩
        · clear hi h4
          by_cases hlen : l1_3.length = r4.length
          · have hq : (l1_3.length == r4.length) = true := by simpa using hlen
            have hq' : (l1_3.length != r4.length) = false := by simpa using hlen
            have HLEN := Aside0.mk hlen
            clear hlen
            cases b with
            | true =>
              go_wp2_with fail
              refine (slices_Equal_int_int.calls (l1_3.length + 1) A1_3 c1_3 l1_3 B3 d3 r4 _ _ (Kd.C_below HR.out.2.2.2.2.2 ((HWB.out.trans (hB.out.mono HWB.out.size)).alloc (Nat.le_trans HWB.out.size hB.out.size) _)) hc1_3 (Kd.C_below QQ.out.2.2.2 ((HW1.out.trans (hB.out.mono HW1.out.size)).alloc (Nat.le_trans HW1.out.size hB.out.size) _)) hd3 (Equal_f l1_3 r4 (by have := HMX.out.2.2.2; have := HLEN.out; omega) _ (by omega))).mono ?_
              rintro e w5 ⟨rfl, hd5⟩
              have hb5 : Below wr.heap.size wr w5 := (below_alloc (Below.refl _ _) _).trans (hd5.below.mono (by simp))
              have HB5 := Aside0.mk (hB.out.trans (hb5.mono hB.out.size))
              clear hd5 hb5
              go_wp2
              go_roundw
              case rel => exact ⟨4, _, by omega, rfl, rfl, ⟨by have h1 := hI.out; have h2 := HLEN.out; simp at h1 ⊢; first | (simp [h1, h2]; done) | grind⟩, HB5⟩
              case measure => simp [intOf]
            | false =>
              go_wp2
              go_roundw
              case rel => exact ⟨4, _, by omega, rfl, rfl, ⟨by have h1 := hI.out; have h2 := HLEN.out; simp at h1 ⊢; first | (simp [h1, h2]; done) | grind⟩, ⟨below_alloc hB.out _⟩⟩
              case measure => simp [intOf]
          · have hq : (l1_3.length == r4.length) = false := by simpa using hlen
            have hq' : (l1_3.length != r4.length) = true := by simpa using hlen
            have hv : r = 6 := by
              rw [← HV.out]
              unfold verifyV
              rw [if_neg (by rintro ⟨a, b, c, d⟩; exact hlen (by assumption))]
            have HV6 := Aside0.mk hv
            clear hlen hv
            go_wp2
            go_ret
            exact ⟨by rw [HV6.out]; rfl, ((HWB.out.trans (hB.out.mono HWB.out.size)).alloc (Nat.le_trans HWB.out.size hB.out.size) _)⟩
      · obtain rfl : i = 4 := by omega
        have HI := hI
        have HBW := Aside0.mk (HWB.out.trans (hB.out.mono HWB.out.size))
        have hv : r = if b = true then 0 else 22 := by
          have h1 := hI.out
          simp at h1
          rw [← HV.out]
          unfold verifyV
          rw [if_pos ⟨h1.2.1, h1.2.2.1, h1.2.2.2.1, h1.2.2.2.2⟩]
          by_cases hb : b = true
          · rw [if_pos (h1.1.1 hb), if_pos hb]
          · rw [if_neg (fun h => hb (h1.1.2 h)), if_neg hb]
        have HVV := Aside0.mk hv
        clear hv hI hB h4 hi
        cases b with
        | true =>
          go_wp2
          go_ret
          exact ⟨by rw [HVV.out]; rfl, HBW.out⟩
        | false =>
          go_wp2
          go_ret
          exact ⟨by rw [HVV.out]; rfl, HBW.out⟩
  · have hz2 : (r6 != 0) = true := by simpa using hz
    rw [if_neg hz] at h
    obtain rfl := Option.some.inj h
    clear h
    go_wp2
    go_ret
    exact ⟨rfl, by repeat (first | exact HB1.out | apply below_alloc)⟩
end Go.Proofs.Ytcflacjidabppaa.Pr

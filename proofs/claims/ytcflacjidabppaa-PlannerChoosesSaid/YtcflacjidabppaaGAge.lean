/- planner.Age. -/
import Derived.Test.YtcflacjidabppaaGVerify
namespace Go.Proofs.Ytcflacjidabppaa.Pr
open Go.RowKit Go.Proofs.YtcflacjidabppaaW.PrintWords Go.Proofs.YtcflacjidabppaaW.PrintLast Go.Proofs.YtcflacjidabppaaW.PrintMore
set_option linter.unusedVariables false
set_option linter.unusedSimpArgs false
attribute [local go_sem] max2_int min2_int max_two min_two max_three min_three max_four min_four

/-- How many elements are at most x. -/
def cntLe (l : List Int) (x : Int) : Nat := (l.filter fun a => decide (a ≤ x)).length
theorem cntLe_le (l : List Int) (x : Int) : cntLe l x ≤ l.length := List.length_filter_le _ _
theorem cntLe_sorted (l : List Int) (x : Int) (hs : l.Pairwise (· ≤ ·)) : ∀ i, i < l.length → (rd l (i : Int) ≤ x ↔ i < cntLe l x) := by
  induction l with
  | nil => intro i h; simp at h
  | cons a r ih =>
    intro i hi
    have hs2 := List.pairwise_cons.1 hs
    by_cases ha : a ≤ x
    · have e : cntLe (a :: r) x = cntLe r x + 1 := by simp [cntLe, ha]
      cases i with
      | zero => simp [rd, ha, e]
      | succ i =>
        have h := ih hs2.2 i (by simpa using hi)
        have e2 : rd (a :: r) ((i + 1 : Nat) : Int) = rd r (i : Int) := by simp [rd]
        rw [e2, e, h]
        omega
    · have e : cntLe (a :: r) x = 0 := by
        simp only [cntLe, List.length_eq_zero_iff, List.filter_eq_nil_iff]
        intro b hb
        rcases List.mem_cons.1 hb with rfl | hb
        · simpa using ha
        · have := hs2.1 b hb
          simp
          omega
      rw [e]
      have hm : rd (a :: r) (i : Int) ∈ a :: r := rd_mem _ _ (by omega) (by omega)
      rcases List.mem_cons.1 hm with h | h
      · omega
      · have := hs2.1 _ h
        omega

def planner_Age.f (k : Nat) (l0_0 : List Int) (l0_1 : List Int) (a0_2 : Int) (a0_3 : Int) (a0_4 : Int) (l1_0 : List Int) (l1_1 : List Int) (l1_2 : List Int) (l1_3 : List Int) (a1_4 : Int) (a2 : Int) : Option (Int × Int) :=
  (planner_Verify.f k l0_0 l0_1 a0_2 a0_3 a0_4 l1_0 l1_1 l1_2 l1_3 a1_4).bind fun e =>
    if e = 0 then (if 0 ≤ a2 ∧ a2 ≤ 1073741824 then (if l1_3.Pairwise (· ≤ ·) ∧ l1_3.length ≤ 4611686018427387904 then (if cntLe l1_3 a2 = 0 then some (a2, 0) else if cntLe l1_3 a2 ≤ l1_0.length then some (wrap64 (a2 - rd l1_0 ((cntLe l1_3 a2 : Int) - 1)), 0) else none) else none) else some (0, 24)) else some (0, e)
theorem planner_Age.mono : ∀ a0 a1 a2 a3 a4 a5 a6 a7 a8 a9 a10 k, LeO (planner_Age.f k a0 a1 a2 a3 a4 a5 a6 a7 a8 a9 a10) (planner_Age.f (k + 1) a0 a1 a2 a3 a4 a5 a6 a7 a8 a9 a10) := by
  intro a0 a1 a2 a3 a4 a5 a6 a7 a8 a9 a10 k
  unfold planner_Age.f
  exact LeO.bind (planner_Verify.mono _ _ _ _ _ _ _ _ _ _ _) (fun t => LeO.refl _)

theorem age_pred (P : Nat) (A1_0 A1_1 A1_2 : Value) (A1_3 : Option Addr) (c1_3 : Nat) (l1_3 : List Int) (a1_4 now : Int) (r : Nat) (w : World)
    (hb : w.heap[P]? = some (.cells #[A1_0, A1_1, A1_2, .slice A1_3 l1_3.length c1_3, .int .i64 a1_4] 28 (0, 0))) (hn : w.heap[P + 1]? = some (.cells #[.int .i64 now] 3 (0, 0)))
    (hr : Kd.C (Kd.int .i64) w A1_3 l1_3.length l1_3) (hs : ∀ i, i < l1_3.length → (rd l1_3 (i : Int) ≤ now ↔ i < r)) :
    PredC Drawn0 44 #[.pointer (some ⟨P, 0, none⟩), .pointer (some ⟨P + 1, 0, none⟩)] r l1_3.length w := by
  intro x W hx0 hx1 hd
  have hbw := hd.below
  have f0 : W.cell? ⟨P, 3, none⟩ = some (.slice A1_3 l1_3.length c1_3) := (blk_cell (blk_below hb hbw) 3).trans rfl
  have f1 : W.cell? ⟨P + 1, 0, none⟩ = some (.int .i64 now) := (blk_cell (blk_below hn hbw) 0).trans rfl
  obtain ⟨ad, rfl, hcell⟩ := Kd.at_int (Kd.C_below hr hbw) x hx0 hx1
  have h3 := hs x.toNat (by omega)
  rw [show ((x.toNat : Nat) : Int) = x from by omega] at h3
  have H := Aside0.mk (show decide (rd l1_3 x > now) = decide ((r : Int) ≤ x) from by
    by_cases hc : (r : Int) ≤ x
    · rw [decide_eq_true hc, decide_eq_true (by have : ¬ rd l1_3 x ≤ now := fun h => by have := h3.1 h; omega
                                                omega)]
    · rw [decide_eq_false hc, decide_eq_false (by have := h3.2 (by omega); omega)])
  have p0 := eq_true hx0
  have p1 := eq_true hx1
  clear hr hs hb hn hbw hd h3 hx0 hx1
  show Calls _ _ #[.int .i64 x, .pointer (some ⟨P, 0, none⟩), .pointer (some ⟨P + 1, 0, none⟩)] _ _
  go_enter Try.func44, Try.ntmps44
  go_wp2_with fail
  go_quiet (fail)
  go_wp2
  go_ret
  exact ⟨by rw [← H.out]; rfl, Drawn0.step (Drawn0.refl _) _⟩

set_option maxHeartbeats 4000000 in
set_option maxRecDepth 100000 in
theorem planner_Age.calls (k : Nat) (A0_0 : Option Addr) (c0_0 : Nat) (l0_0 : List Int) (A0_1 : Option Addr) (c0_1 : Nat) (l0_1 : List Int) (a0_2 : Int) (a0_3 : Int) (a0_4 : Int) (A1_0 : Option Addr) (c1_0 : Nat) (l1_0 : List Int) (A1_1 : Option Addr) (c1_1 : Nat) (l1_1 : List Int) (A1_2 : Option Addr) (c1_2 : Nat) (l1_2 : List Int) (A1_3 : Option Addr) (c1_3 : Nat) (l1_3 : List Int) (a1_4 : Int) (a2 : Int) (r1 : Int) (r2 : Int) (w : World) (hr0_0 : Kd.C (Kd.int .i64) w A0_0 l0_0.length l0_0) (hc0_0 : l0_0.length ≤ c0_0) (hr0_1 : Kd.C (Kd.int .i64) w A0_1 l0_1.length l0_1) (hc0_1 : l0_1.length ≤ c0_1) (hr1_0 : Kd.C (Kd.int .i64) w A1_0 l1_0.length l1_0) (hc1_0 : l1_0.length ≤ c1_0) (hr1_1 : Kd.C (Kd.int .i64) w A1_1 l1_1.length l1_1) (hc1_1 : l1_1.length ≤ c1_1) (hr1_2 : Kd.C (Kd.int .i64) w A1_2 l1_2.length l1_2) (hc1_2 : l1_2.length ≤ c1_2) (hr1_3 : Kd.C (Kd.int .i64) w A1_3 l1_3.length l1_3) (hc1_3 : l1_3.length ≤ c1_3) (h : planner_Age.f k l0_0 l0_1 a0_2 a0_3 a0_4 l1_0 l1_1 l1_2 l1_3 a1_4 a2 = some (r1, r2)) :
    Calls Try.prog 19 #[.agg #[.slice A0_0 l0_0.length c0_0, .slice A0_1 l0_1.length c0_1, .int .i64 a0_2, .int .i64 a0_3, .int .i64 a0_4], .agg #[.slice A1_0 l1_0.length c1_0, .slice A1_1 l1_1.length c1_1, .slice A1_2 l1_2.length c1_2, .slice A1_3 l1_3.length c1_3, .int .i64 a1_4], .int .i64 a2] w fun e w' => e = .returned (.tuple #[.int .i64 r1, .int .i64 r2]) ∧ Below w.heap.size w w' := by
  unfold planner_Age.f at h
  obtain ⟨e, he, h⟩ := Option.bind_eq_some_iff.1 h
  have HR := Aside0.mk (And.intro hr0_0 (And.intro hr0_1 (And.intro hr1_0 (And.intro hr1_1 (And.intro hr1_2 hr1_3)))))
  have HE := Aside0.mk he
  clear hr0_0 hr0_1 hr1_0 hr1_1 hr1_2 hr1_3 he
  have hmf : ∀ (fn : Fn) (first cap : Array Value) (w : World), (Instr.makeFunc fn first cap).run Try.prog w = .ok (.func fn first cap) w := fun _ _ _ _ => rfl
  go_enter Try.func19, Try.ntmps19
  go_wp2_with fail
  refine (planner_Verify.calls k A0_0 c0_0 l0_0 A0_1 c0_1 l0_1 a0_2 a0_3 a0_4 A1_0 c1_0 l1_0 A1_1 c1_1 l1_1 A1_2 c1_2 l1_2 A1_3 c1_3 l1_3 a1_4 e _ (Kd.C_below HR.out.1 (by repeat (first | exact Below.refl _ _ | apply below_alloc))) hc0_0 (Kd.C_below HR.out.2.1 (by repeat (first | exact Below.refl _ _ | apply below_alloc))) hc0_1 (Kd.C_below HR.out.2.2.1 (by repeat (first | exact Below.refl _ _ | apply below_alloc))) hc1_0 (Kd.C_below HR.out.2.2.2.1 (by repeat (first | exact Below.refl _ _ | apply below_alloc))) hc1_1 (Kd.C_below HR.out.2.2.2.2.1 (by repeat (first | exact Below.refl _ _ | apply below_alloc))) hc1_2 (Kd.C_below HR.out.2.2.2.2.2 (by repeat (first | exact Below.refl _ _ | apply below_alloc))) hc1_3 HE.out).mono ?_
  rintro e1 w1 ⟨rfl, hb⟩
  have hbp := blk_below (g := w.heap.size + 1) (o := .cells #[.slice A1_0 l1_0.length c1_0, .slice A1_1 l1_1.length c1_1, .slice A1_2 l1_2.length c1_2, .slice A1_3 l1_3.length c1_3, .int .i64 a1_4] 28 (0, 0)) (blk_alloc (by have := heap_alloc_new (w.alloc (.cells #[.slice A0_0 l0_0.length c0_0, .slice A0_1 l0_1.length c0_1, .int .i64 a0_2, .int .i64 a0_3, .int .i64 a0_4] 24)) (.cells #[.slice A1_0 l1_0.length c1_0, .slice A1_1 l1_1.length c1_1, .slice A1_2 l1_2.length c1_2, .slice A1_3 l1_3.length c1_3, .int .i64 a1_4] 28); rw [World.size_alloc] at this; exact this) _) hb
  have hbn := blk_below (g := w.heap.size + 1 + 1) (o := .cells #[.int .i64 a2] 3 (0, 0)) (by have := heap_alloc_new ((w.alloc (.cells #[.slice A0_0 l0_0.length c0_0, .slice A0_1 l0_1.length c0_1, .int .i64 a0_2, .int .i64 a0_3, .int .i64 a0_4] 24)).alloc (.cells #[.slice A1_0 l1_0.length c1_0, .slice A1_1 l1_1.length c1_1, .slice A1_2 l1_2.length c1_2, .slice A1_3 l1_3.length c1_3, .int .i64 a1_4] 28)) (.cells #[.int .i64 a2] 3); rw [World.size_alloc, World.size_alloc] at this; exact this) hb
  have hb0 : Below w.heap.size w w1 := Below.trans (by repeat (first | exact Below.refl _ _ | apply below_alloc)) (hb.mono (by simp; omega))
  have HB1 := Aside0.mk hb0
  have BP := Aside0.mk hbp
  have BN := Aside0.mk hbn
  have t0 := (blk_cell hbp 0).trans rfl
  have t3 := (blk_cell hbp 3).trans rfl
  have tn := (blk_cell hbn 0).trans rfl
  clear hb hb0 hbp hbn
  by_cases hz : e = 0
  · subst hz
    rw [if_pos rfl] at h
    by_cases hn : 0 ≤ a2 ∧ a2 ≤ 1073741824
    · rw [if_pos hn] at h
      split at h
      · rename_i hc
        have hx := (decide_eq_true hn.1 : decide (0 ≤ a2) = true)
        have HCS := Aside0.mk (cntLe_sorted l1_3 a2 hc.1)
        have HCL := Aside0.mk (show 0 ≤ (cntLe l1_3 a2 : Int) ∧ ((cntLe l1_3 a2 : Int) ≤ l1_3.length ∨ (cntLe l1_3 a2 : Int) = 0) ∧ (l1_3.length : Int) ≤ 4611686018427387904 from by have := cntLe_le l1_3 a2; have := hc.2; omega)
        have HBT := Aside0.mk (show planner_between.f a2 0 1073741824 = some true from by unfold planner_between.f; rw [if_pos (by omega), decide_eq_true hn.2])
        obtain ⟨r, hr⟩ : ∃ r, Aside0 (cntLe l1_3 a2 = r) := ⟨_, ⟨rfl⟩⟩
        rw [hr.out] at h HCS HCL
        clear hc hx hn
        go_wp2_with fail
        refine (planner_between.calls a2 0 1073741824 true _ HBT.out).mono ?_
        rintro e2 w2 ⟨rfl, hd⟩
        have hbb := hd.below
        have u0 := pw_cell_below hbb t0
        have u3 := pw_cell_below hbb t3
        have un := pw_cell_below hbb tn
        have HB2 := Aside0.mk (HB1.out.trans (hbb.mono HB1.out.size))
        have HPC := Aside0.mk (age_pred (w.heap.size + 1) _ _ _ A1_3 c1_3 l1_3 a1_4 a2 r w2 (blk_below BP.out hbb) (blk_below BN.out hbb) (Kd.C_below HR.out.2.2.2.2.2 HB2.out) HCS.out)
        clear hd hbb t0 t3 tn
        go_wp2_with fail
        refine (Search_calls Drawn0 Drawn0.refl (fun _ _ _ => drawn_then) 44 _ (r : Int) (l1_3.length : Int) w2 HCL.out.1 HCL.out.2.1 HCL.out.2.2 (enters_of Try.func44 (by kernel_rfl) rfl) HPC.out).mono ?_
        rintro e3 w3 ⟨rfl, hd⟩
        have hbb := hd.below
        have v0 := pw_cell_below hbb u0
        have vn := pw_cell_below hbb un
        have HB3 := Aside0.mk (HB2.out.trans (hbb.mono HB2.out.size))
        clear hd hbb u0 u3 un
        by_cases hr0 : r = 0
        · subst hr0
          rw [if_pos rfl] at h
          have e := Option.some.inj h
          simp only [Prod.mk.injEq] at e
          obtain ⟨rfl, rfl⟩ := e
          clear h
          go_wp2
          go_ret2
          exact ⟨rfl, HB3.out⟩
        · rw [if_neg hr0] at h
          split at h
          · rename_i hrl
            have e := Option.some.inj h
            simp only [Prod.mk.injEq] at e
            obtain ⟨E1, rfl⟩ := e
            have HE1 := Aside0.mk E1
            clear h E1
            obtain ⟨m, rfl⟩ : ∃ m, r = m + 1 := ⟨r - 1, by omega⟩
            have q0 : (((m + 1 : Nat) : Int) == 0) = false := by simp; omega
            have q1 : ((m : Int) + 1 == 0) = false := by simp; omega
            obtain ⟨ad, rfl, hcell⟩ := Kd.at_int (Kd.C_below HR.out.2.2.1 HB3.out) (m : Int) (by omega) (by omega)
            rw [Int.toNat_natCast] at hcell
            have p1 : ((m : Int) < (l1_0.length : Int)) = True := eq_true (by omega)
            have p2 : (m < l1_0.length) = True := eq_true (by omega)
            have hml : (m : Int) ≤ 4611686018427387904 := by have := HCL.out; omega
            have HE2 := Aside0.mk (show wrap64 (a2 - rd l1_0 (m : Int)) = r1 from by rw [← HE1.out]; congr 3; omega)
            clear hr0 hrl
            go_wp2_with fail
            go_quiet (fail)
            go_wp2
            go_ret2
            refine ⟨?_, pw_below_drewN HB3.out _⟩
            rw [← HE2.out]
            rfl
          · cases h
      · cases h
    · rw [if_neg hn] at h
      have e := Option.some.inj h
      simp only [Prod.mk.injEq] at e
      obtain ⟨rfl, rfl⟩ := e
      have HBT := Aside0.mk (show planner_between.f a2 0 1073741824 = some false from by
        unfold planner_between.f
        split
        · rw [decide_eq_false (by omega)]
        · rfl)
      clear h hn
      go_wp2_with fail
      refine (planner_between.calls a2 0 1073741824 false _ HBT.out).mono ?_
      rintro e2 w2 ⟨rfl, hd⟩
      have HB2 := Aside0.mk (HB1.out.trans (hd.below.mono HB1.out.size))
      clear hd
      go_wp2
      go_ret2
      exact ⟨rfl, HB2.out⟩
  · rw [if_neg hz] at h
    have hz2 : (e != 0) = true := by simpa using hz
    have e' := Option.some.inj h
    simp only [Prod.mk.injEq] at e'
    obtain ⟨rfl, rfl⟩ := e'
    clear h
    go_wp2
    go_ret2
    exact ⟨rfl, HB1.out⟩
end Go.Proofs.Ytcflacjidabppaa.Pr

/- curve.Delay. -/
import Derived.Test.YtanlonngekgibaaGBack
import Derived.IntWalk
namespace Go.Proofs.Ytanlonngekgibaa.Pr
open Go.RowKit Go.Proofs.YtanlonngekgibaaW.PrintWords Go.Proofs.YtanlonngekgibaaW.PrintLast Go.Proofs.YtanlonngekgibaaW.PrintMore
set_option linter.unusedVariables false
set_option linter.unusedSimpArgs false
attribute [local go_sem] max2_int min2_int max_two min_two max_three min_three max_four min_four

theorem delay_ok : FnOk Try.prog 56 := ⟨_, Try.func56, by kernel_rfl, by kernel_rfl⟩
def curve_Delay.f (k : Nat) (l0_0 : List Int) (a0_1 : Int) (l1_0 : List Int) (a1_1 : Int) : Option (Int × Int) :=
  (curve_Check.f k l0_0 a0_1).bind fun e0 => if e0 = 0 then (curve_Check.f k l1_0 a1_1).bind fun e1 => if e1 = 0 then (if a0_1 > a1_1 then some (0, 21) else if a1_1 = 0 then (if 1 ≤ l0_0.length ∧ 1 ≤ l1_0.length then (if rd l0_0 ((l0_0.length : Int) - 1) > rd l1_0 ((l1_0.length : Int) - 1) then some (0, 21) else (curve_greatest.f k l0_0 a0_1 l1_0 a1_1 (delayF k l0_0 a0_1 l1_0 a1_1)).bind fun r => some (r, 0)) else none) else (curve_greatest.f k l0_0 a0_1 l1_0 a1_1 (delayF k l0_0 a0_1 l1_0 a1_1)).bind fun r => some (r, 0)) else some (0, e1) else some (0, e0)
theorem curve_reach_mono (a0 : List Int) (a1 : Int) (a2 : Int) (k : Nat) : LeO (curve_curve_reach.f k a0 a1 a2) (curve_curve_reach.f (k + 1) a0 a1 a2) := curve_curve_reach.mono a0 a1 a2 k
set_option maxHeartbeats 2000000 in
set_option maxRecDepth 100000 in
theorem curve_Delay.calls (k : Nat) (A0_0 : Option Addr) (c0_0 : Nat) (l0_0 : List Int) (a0_1 : Int) (A1_0 : Option Addr) (c1_0 : Nat) (l1_0 : List Int) (a1_1 : Int) (r1 : Int) (r2 : Int) (w : World) (hr0_0 : Kd.C (Kd.int .i64) w A0_0 l0_0.length l0_0) (hc0_0 : l0_0.length ≤ c0_0) (hr1_0 : Kd.C (Kd.int .i64) w A1_0 l1_0.length l1_0) (hc1_0 : l1_0.length ≤ c1_0) (h : curve_Delay.f k l0_0 a0_1 l1_0 a1_1 = some (r1, r2)) :
    Calls Try.prog 24 #[.agg #[.slice A0_0 l0_0.length c0_0, .int .i64 a0_1], .agg #[.slice A1_0 l1_0.length c1_0, .int .i64 a1_1]] w fun e w' => e = .returned (.tuple #[.int .i64 r1, .int .i64 r2]) ∧ Below w.heap.size w w' := by
  have hmf : ∀ (fn : Fn) (first cap : Array Value) (w : World), (Instr.makeFunc fn first cap).run Try.prog w = .ok (.func fn first cap) w := fun _ _ _ _ => rfl
  have HR : Aside0 (∀ W, Below w.heap.size w W → Kd.C (Kd.int .i64) W A0_0 l0_0.length l0_0 ∧ Kd.C (Kd.int .i64) W A1_0 l1_0.length l1_0) := ⟨fun W hW => ⟨Kd.C_below hr0_0 hW, Kd.C_below hr1_0 hW⟩⟩
  have hc0 := Aside0.mk hc0_0
  have hc1 := Aside0.mk hc1_0
  have HB0 := Aside0.mk (below_alloc (below_alloc (Below.refl w.heap.size w) (.cells #[.slice A0_0 l0_0.length c0_0, .int .i64 a0_1] 24)) (.cells #[.slice A1_0 l1_0.length c1_0, .int .i64 a1_1] 24))
  unfold curve_Delay.f at h
  obtain ⟨e0, h0, h⟩ := Option.bind_eq_some_iff.1 h
  have H0 := Aside0.mk h0
  have HH := Aside0.mk h
  clear hr0_0 hr1_0 hc0_0 hc1_0 h h0
  by_cases hz : e0 = 0
  · subst hz
    obtain ⟨e1, h1, h⟩ := Option.bind_eq_some_iff.1 ((if_pos rfl).symm.trans HH.out)
    have H1 := Aside0.mk h1
    have HI := Aside0.mk h
    clear h h1
    go_enter Try.func24, Try.ntmps24
    go_wp2_with fail
    refine (pair_ok k A0_0 c0_0 l0_0 a0_1 A1_0 c1_0 l1_0 a1_1 e1 _ (HR.out _ HB0.out).1 hc0.out (HR.out _ HB0.out).2 hc1.out H0.out H1.out).mono ?_
    rintro e w1 ⟨rfl, hb⟩
    obtain ⟨B1, ta, tb⟩ := args_begin w _ _ hb
    have HB1 := Aside0.mk B1
    have TA1 := Aside0.mk ta
    have TB1 := Aside0.mk tb
    clear hb B1 ta tb
    go_upto_region 2 with (fail)
    refine name_world ?_
    intro W hW
    obtain ⟨B2, hx, hy⟩ := two_begin w1 _ _ hW.out
    have HB2 := Aside0.mk (below_then HB1.out HB1.out.size B2)
    have TA := blk_below TA1.out B2
    have TB := blk_below TB1.out B2
    have HT : Aside0 (Two W w1.heap.size (w1.heap.size + 1) A0_0 c0_0 l0_0 a0_1 A1_0 c1_0 l1_0 a1_1) := ⟨⟨hx, hy, (HR.out _ HB2.out).1, (HR.out _ HB2.out).2, hc0.out, hc1.out⟩⟩
    have x0 := (blk_cell hx 0).trans rfl
    have x1 := (blk_cell hx 1).trans rfl
    have y0 := (blk_cell hy 0).trans rfl
    have y1 := (blk_cell hy 1).trans rfl
    have t0 := (blk_cell TA 0).trans rfl
    have t1 := (blk_cell TA 1).trans rfl
    have t2 := (blk_cell TB 1).trans rfl
    have t3 := (blk_cell TB 0).trans rfl
    clear hW B2 hx hy TA TB TA1 TB1
    obtain ⟨bx, hbx⟩ : ∃ bx, bx = w1.heap.size := ⟨_, rfl⟩
    obtain ⟨bY, hbY⟩ : ∃ bY, bY = w1.heap.size + 1 := ⟨_, rfl⟩
    rw [← hbY, ← hbx] at HT ⊢
    rw [← hbY] at y0 y1
    rw [← hbx] at x0 x1
    clear hbx hbY
    by_cases hz1 : e1 = 0
    · subst hz1
      have h := (if_pos rfl).symm.trans HI.out
      by_cases hs : a0_1 > a1_1
      · rw [if_pos hs] at h
        have e := Option.some.inj h
        simp only [Prod.mk.injEq] at e
        obtain ⟨rfl, rfl⟩ := e
        have q0 := decide_eq_true hs
        have q1 : decide (a1_1 < a0_1) = true := decide_eq_true hs
        clear h hs HI
        go_wp2
        go_ret2
        exact ⟨rfl, HB2.out⟩
      · rw [if_neg hs] at h
        have q0 := decide_eq_false hs
        have q1 : decide (a1_1 < a0_1) = false := decide_eq_false hs
        have HHS := Aside0.mk h
        clear h hs HI
        by_cases hs1 : a1_1 = 0
        · have h := (if_pos hs1).symm.trans HHS.out
          have z1 : (a1_1 == 0) = true := by simpa using hs1
          split at h
          · rename_i hlen
            obtain ⟨ad0, ea0, hcell0⟩ := Kd.at_int HT.out.r0 ((l0_0.length : Int) - 1) (by omega) (by omega)
            obtain ⟨ad1, ea1, hcell1⟩ := Kd.at_int HT.out.r1 ((l1_0.length : Int) - 1) (by omega) (by omega)
            subst ea0 ea1
            have m0 : l0_0.length ≤ 9223372036854775807 := Kd.C_max HT.out.r0
            have m1 : l1_0.length ≤ 9223372036854775807 := Kd.C_max HT.out.r1
            obtain ⟨j0, hj0⟩ : ∃ j, (l0_0.length : Int) - 1 = j := ⟨_, rfl⟩
            obtain ⟨j1, hj1⟩ : ∃ j, (l1_0.length : Int) - 1 = j := ⟨_, rfl⟩
            have w0 : IntKind.i64.wrap ((l0_0.length : Int) - 1) = j0 := by rw [IntWalk.i64_in _ (by omega)]; exact hj0
            have w1_ : IntKind.i64.wrap ((l1_0.length : Int) - 1) = j1 := by rw [IntWalk.i64_in _ (by omega)]; exact hj1
            have p0 : (0 ≤ j0) = True := eq_true (by omega)
            have p1 : (0 ≤ j1) = True := eq_true (by omega)
            have p2 : (j0 < (l0_0.length : Int)) = True := eq_true (by omega)
            have p3 : (j1 < (l1_0.length : Int)) = True := eq_true (by omega)
            rw [hj0] at hcell0
            rw [hj1] at hcell1
            rw [hj0, hj1] at h
            obtain ⟨u0, hu0⟩ : ∃ u, rd l0_0 j0 = u := ⟨_, rfl⟩
            obtain ⟨u1, hu1⟩ : ∃ u, rd l1_0 j1 = u := ⟨_, rfl⟩
            rw [hu0] at hcell0 h
            rw [hu1] at hcell1 h
            clear hlen m0 m1 hj0 hj1 hu0 hu1
            by_cases hg : u0 > u1
            · rw [if_pos hg] at h
              have e := Option.some.inj h
              simp only [Prod.mk.injEq] at e
              obtain ⟨rfl, rfl⟩ := e
              have q2 : decide (u1 < u0) = true := decide_eq_true hg
              clear h hg HHS hs1
              go_wp2_with fail
              go_quiet (fail)
              clear hcell0 hcell1 w0 w1_ p0 p1 p2 p3
              go_wp2
              go_ret2
              exact ⟨rfl, pw_below_drewN HB2.out _⟩
            · rw [if_neg hg] at h
              obtain ⟨r, hr, h⟩ := Option.bind_eq_some_iff.1 h
              have e := Option.some.inj h
              simp only [Prod.mk.injEq] at e
              obtain ⟨rfl, rfl⟩ := e
              have HG := Aside0.mk hr
              have q2 : decide (u1 < u0) = false := decide_eq_false hg
              clear h hg HHS hr hs1
              go_wp2_with fail
              go_quiet (fail)
              clear hcell0 hcell1 w0 w1_ p0 p1 p2 p3
              go_wp2_with fail
              refine (curve_greatest.calls k (some ad0) c0_0 l0_0 a0_1 (some ad1) c1_0 l1_0 a1_1 56 #[] #[.pointer (some ⟨bY, 0, none⟩), .pointer (some ⟨bx, 0, none⟩)] (delayF k l0_0 a0_1 l1_0 a1_1) r _ (HT.out.below (pw_below_drewN (Below.refl _ _) _)).r0 HT.out.k0 (HT.out.below (pw_below_drewN (Below.refl _ _) _)).r1 HT.out.k1 delay_ok (fun x r W' hW' hF => delay_run k bx bY (some ad0) c0_0 l0_0 a0_1 (some ad1) c1_0 l1_0 a1_1 x r W' ((HT.out.below (pw_below_drewN (Below.refl _ _) _)).below hW') hF) HG.out).mono ?_
              rintro e w3 ⟨rfl, hb⟩
              have HB3 := Aside0.mk (below_then (pw_below_drewN HB2.out _) (pw_below_drewN HB2.out _).size hb)
              clear hb x0 x1 y0 y1 t0 t1 t2 t3
              go_wp2
              go_ret2
              exact ⟨rfl, HB3.out⟩
          · cases h
        · have h := (if_neg hs1).symm.trans HHS.out
          have z1 : (a1_1 == 0) = false := by simpa using hs1
          obtain ⟨r, hr, h⟩ := Option.bind_eq_some_iff.1 h
          have e := Option.some.inj h
          simp only [Prod.mk.injEq] at e
          obtain ⟨rfl, rfl⟩ := e
          have HG := Aside0.mk hr
          clear h HHS hr hs1
          go_wp2_with fail
          go_quiet (fail)
          go_wp2_with fail
          refine (curve_greatest.calls k A0_0 c0_0 l0_0 a0_1 A1_0 c1_0 l1_0 a1_1 56 #[] #[.pointer (some ⟨bY, 0, none⟩), .pointer (some ⟨bx, 0, none⟩)] (delayF k l0_0 a0_1 l1_0 a1_1) r _ (HT.out.below (pw_below_drewN (Below.refl _ _) _)).r0 HT.out.k0 (HT.out.below (pw_below_drewN (Below.refl _ _) _)).r1 HT.out.k1 delay_ok (fun x r W' hW' hF => delay_run k bx bY A0_0 c0_0 l0_0 a0_1 A1_0 c1_0 l1_0 a1_1 x r W' ((HT.out.below (pw_below_drewN (Below.refl _ _) _)).below hW') hF) HG.out).mono ?_
          rintro e w3 ⟨rfl, hb⟩
          have HB3 := Aside0.mk (below_then (pw_below_drewN HB2.out _) (pw_below_drewN HB2.out _).size hb)
          clear hb x0 x1 y0 y1 t0 t1 t2 t3
          go_wp2
          go_ret2
          exact ⟨rfl, HB3.out⟩
    · have h := HI.out
      rw [if_neg hz1] at h
      have e := Option.some.inj h
      simp only [Prod.mk.injEq] at e
      obtain ⟨rfl, rfl⟩ := e
      have q0 : (e1 != 0) = true := by simpa using hz1
      clear h hz1 HI
      go_wp2
      go_ret2
      exact ⟨rfl, HB2.out⟩
  · have h := HH.out
    rw [if_neg hz] at h
    have e := Option.some.inj h
    simp only [Prod.mk.injEq] at e
    obtain ⟨rfl, rfl⟩ := e
    have q0 : (e0 != 0) = true := by simpa using hz
    have HZ := Aside0.mk hz
    clear h hz HH
    go_enter Try.func24, Try.ntmps24
    go_wp2_with fail
    refine (pair_bad k A0_0 c0_0 l0_0 a0_1 A1_0 c1_0 l1_0 a1_1 e0 _ (HR.out _ HB0.out).1 hc0.out (HR.out _ HB0.out).2 hc1.out H0.out HZ.out).mono ?_
    rintro e w1 ⟨rfl, hb⟩
    have HB1 := Aside0.mk (args_begin w _ _ hb).1
    clear hb
    go_upto_region 2 with (fail)
    refine name_world ?_
    intro W hW
    have HB2 := Aside0.mk (below_then HB1.out HB1.out.size (two_begin w1 _ _ hW.out).1)
    clear hW
    go_wp2
    go_ret2
    exact ⟨rfl, HB2.out⟩
end Go.Proofs.Ytanlonngekgibaa.Pr

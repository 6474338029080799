/- curve.Convolve. -/
import Derived.Test.YtanlonngekgibaaGMin
import Derived.Test.YtanlonngekgibaaF48
import Derived.IntWalk
namespace Go.Proofs.Ytanlonngekgibaa.Pr
open Go.RowKit Go.Proofs.YtanlonngekgibaaW.PrintWords Go.Proofs.YtanlonngekgibaaW.PrintLast Go.Proofs.YtanlonngekgibaaW.PrintMore
set_option linter.unusedVariables false
set_option linter.unusedSimpArgs false
attribute [local go_sem] max2_int min2_int max_two min_two max_three min_three max_four min_four

section
variable {P : Program} {w : World} {a : Addr} {m : Mode}
theorem run_store_fun (f : Fn) (xs ys : Array Value) : (store a (.func f xs ys) m).run P w = stored P w a (.func f xs ys) m := run_store P w a _ m rfl
end
attribute [local go_sem] run_store_fun
theorem at_ok : FnOk Try.prog 44 := ⟨_, Try.func44, by kernel_rfl, by kernel_rfl⟩
theorem conv_ok : FnOk Try.prog 50 := ⟨_, Try.func50, by kernel_rfl, by kernel_rfl⟩
/-- The value of x.at. -/
@[reducible] def atV (A : Option Addr) (c : Nat) (l : List Int) (s : Int) : Value := .func (.func 44) #[.agg #[.slice A l.length c, .int .i64 s]] #[]
theorem at_runs (A : Option Addr) (c : Nat) (l : List Int) (s : Int) (w : World) (hr : ∀ W, Below w.heap.size w W → Kd.C (Kd.int .i64) W A l.length l) (hk : l.length ≤ c) (x0 r : Int) (W : World) (hW : Below w.heap.size w W) (h : curve_curve_at.f l s x0 = some r) :
    Calls Try.prog 44 (#[.agg #[.slice A l.length c, .int .i64 s]] ++ #[.int .i64 x0] ++ #[]) W fun e w' => e = .returned (.int .i64 r) ∧ Below W.heap.size W w' := curve_curve_at.calls A c l s x0 r W (hr W hW) hk h
def convF (k : Nat) (l0 : List Int) (s0 : Int) (l1 : List Int) (s1 : Int) (t : Int) : Option Int := curve_least.f k (wrap64 (t + 1)) t (curve_curve_at.f l0 s0) (curve_curve_at.f l1 s1)

set_option maxRecDepth 100000 in
theorem conv_run (k : Nat) (b9 b10 : Nat) (A0 : Option Addr) (c0 : Nat) (l0 : List Int) (s0 : Int) (A1 : Option Addr) (c1 : Nat) (l1 : List Int) (s1 : Int) (t r : Int) (w : World)
    (h9 : w.heap[b9]? = some (.cells #[atV A0 c0 l0 s0] 58 (0, 0))) (h10 : w.heap[b10]? = some (.cells #[atV A1 c1 l1 s1] 58 (0, 0)))
    (hr0 : Kd.C (Kd.int .i64) w A0 l0.length l0) (hk0 : l0.length ≤ c0) (hr1 : Kd.C (Kd.int .i64) w A1 l1.length l1) (hk1 : l1.length ≤ c1) (h : convF k l0 s0 l1 s1 t = some r) :
    Calls Try.prog 50 #[.int .i64 t, .pointer (some ⟨b9, 0, none⟩), .pointer (some ⟨b10, 0, none⟩)] w fun e w' => e = .returned (.int .i64 r) ∧ Below w.heap.size w w' := by
  have HR : Aside0 (∀ W, Below w.heap.size w W → Kd.C (Kd.int .i64) W A0 l0.length l0 ∧ Kd.C (Kd.int .i64) W A1 l1.length l1) := ⟨fun W hW => ⟨Kd.C_below hr0 hW, Kd.C_below hr1 hW⟩⟩
  have hc0 := Aside0.mk hk0
  have hc1 := Aside0.mk hk1
  have H := Aside0.mk h
  have x0 := (blk_cell h9 0).trans rfl
  have y0 := (blk_cell h10 0).trans rfl
  have e1 : IntKind.i64.wrap (t + 1) = wrap64 (t + 1) := i64_w _
  clear hr0 hk0 hr1 hk1 h h9 h10
  go_enter Try.func50, Try.ntmps50
  go_wp2_with fail
  refine (curve_least.calls k (wrap64 (t + 1)) t 44 #[.agg #[.slice A0 l0.length c0, .int .i64 s0]] #[] (curve_curve_at.f l0 s0) 44 #[.agg #[.slice A1 l1.length c1, .int .i64 s1]] #[] (curve_curve_at.f l1 s1) r _ at_ok (at_runs A0 c0 l0 s0 _ (fun W hW => (HR.out W hW).1) hc0.out) at_ok (at_runs A1 c1 l1 s1 _ (fun W hW => (HR.out W hW).2) hc1.out) H.out).mono ?_
  rintro e w1 ⟨rfl, hb⟩
  have HB1 := Aside0.mk hb
  clear x0 y0 hb
  go_wp2
  go_ret
  exact ⟨rfl, HB1.out⟩

def convG (k : Nat) (l0_0 : List Int) (a0_1 : Int) (l1_0 : List Int) (a1_1 : Int) : Option (List Int × Int × Int) :=
  (curve_least.f k (l0_0.length : Int) (wrap64 (wrap64 ((l0_0.length : Int) + (l1_0.length : Int)) - 2)) (curve_curve_at.f l0_0 a0_1) (curve_curve_at.f l1_0 a1_1)).bind fun v => (curve_least.f k (l1_0.length : Int) (wrap64 (wrap64 ((l0_0.length : Int) + (l1_0.length : Int)) - 2)) (curve_curve_at.f l1_0 a1_1) (curve_curve_at.f l0_0 a0_1)).bind fun u => (curve_crossing.f v a1_1 u a0_1).bind fun c => curve_made.f k (wrap64 (wrap64 (wrap64 (wrap64 ((l0_0.length : Int) + (l1_0.length : Int)) - 2) + 1) + c)) (mn a0_1 a1_1) (convF k l0_0 a0_1 l1_0 a1_1)
def curve_Convolve.f (k : Nat) (l0_0 : List Int) (a0_1 : Int) (l1_0 : List Int) (a1_1 : Int) : Option (List Int × Int × Int) :=
  (curve_Check.f k l0_0 a0_1).bind fun e0 => if e0 = 0 then (curve_Check.f k l1_0 a1_1).bind fun e1 => if e1 = 0 then convG k l0_0 a0_1 l1_0 a1_1 else some ([], 0, e1) else some ([], 0, e0)

set_option maxHeartbeats 2000000 in
set_option maxRecDepth 100000 in
theorem curve_Convolve.calls (k : Nat) (A0_0 : Option Addr) (c0_0 : Nat) (l0_0 : List Int) (a0_1 : Int) (A1_0 : Option Addr) (c1_0 : Nat) (l1_0 : List Int) (a1_1 : Int) (r1 : List Int) (r2 : Int) (r3 : Int) (w : World) (hr0_0 : Kd.C (Kd.int .i64) w A0_0 l0_0.length l0_0) (hc0_0 : l0_0.length ≤ c0_0) (hr1_0 : Kd.C (Kd.int .i64) w A1_0 l1_0.length l1_0) (hc1_0 : l1_0.length ≤ c1_0) (h : curve_Convolve.f k l0_0 a0_1 l1_0 a1_1 = some (r1, r2, r3)) :
    Calls Try.prog 21 #[.agg #[.slice A0_0 l0_0.length c0_0, .int .i64 a0_1], .agg #[.slice A1_0 l1_0.length c1_0, .int .i64 a1_1]] w fun e w' => ∃ v0_ : Value, e = .returned (.tuple #[.agg #[v0_, .int .i64 r2], .int .i64 r3]) ∧ Kd.R (Kd.int .i64) 3 w' w.heap.size (fun _ => True) v0_ r1 ∧ Below w.heap.size w w' := by
  have hmf : ∀ (fn : Fn) (first cap : Array Value) (w : World), (Instr.makeFunc fn first cap).run Try.prog w = .ok (.func fn first cap) w := fun _ _ _ _ => rfl
  have HR0 : Aside0 (∀ W, Below w.heap.size w W → Kd.C (Kd.int .i64) W A0_0 l0_0.length l0_0 ∧ Kd.C (Kd.int .i64) W A1_0 l1_0.length l1_0) := ⟨fun W hW => ⟨Kd.C_below hr0_0 hW, Kd.C_below hr1_0 hW⟩⟩
  have hc0 := Aside0.mk hc0_0
  have hc1 := Aside0.mk hc1_0
  have HB0 := Aside0.mk (below_alloc (below_alloc (below_alloc (Below.refl w.heap.size w) (.cells #[.slice A0_0 l0_0.length c0_0, .int .i64 a0_1] 24)) (.cells #[.slice A1_0 l1_0.length c1_0, .int .i64 a1_1] 24)) (.cells #[.slice none 0 0, .int .i64 0] 24))
  unfold curve_Convolve.f at h
  obtain ⟨e0, h0, h⟩ := Option.bind_eq_some_iff.1 h
  have H0 := Aside0.mk h0
  have HH := Aside0.mk h
  clear hr0_0 hr1_0 hc0_0 hc1_0 h h0
  by_cases hz : e0 = 0
  · subst hz
    obtain ⟨e1, h1, h⟩ := Option.bind_eq_some_iff.1 ((if_pos rfl).symm.trans HH.out)
    have H1 := Aside0.mk h1
    have HI := Aside0.mk h
    clear h h1
    go_enter Try.func21, Try.ntmps21
    go_wp2_with fail
    refine (pair_ok k A0_0 c0_0 l0_0 a0_1 A1_0 c1_0 l1_0 a1_1 e1 _ (HR0.out _ HB0.out).1 hc0.out (HR0.out _ HB0.out).2 hc1.out H0.out H1.out).mono ?_
    rintro e w1 ⟨rfl, hb⟩
    obtain ⟨B1, ta, tb, tr, hlt⟩ := args_begin3 w _ _ _ hb
    have HB1 := Aside0.mk B1
    have TA1 := Aside0.mk ta
    have TB1 := Aside0.mk tb
    have TR1 := Aside0.mk tr
    have HLT := Aside0.mk hlt
    clear hb B1 ta tb tr hlt
    go_upto_region 2 with (fail)
    refine name_world ?_
    intro W hW
    obtain ⟨B2, hx, hy⟩ := two_begin w1 _ _ hW.out
    have HB2 := Aside0.mk (below_then HB1.out HB1.out.size B2)
    have HL2 := Aside0.mk (Nat.lt_of_lt_of_le HLT.out B2.size)
    have ta := blk_below TA1.out B2
    have tb := blk_below TB1.out B2
    have tr := blk_below TR1.out B2
    have TA := Aside0.mk ta
    have TB := Aside0.mk tb
    have TR := Aside0.mk tr
    have HT0 : Two W w1.heap.size (w1.heap.size + 1) A0_0 c0_0 l0_0 a0_1 A1_0 c1_0 l1_0 a1_1 := ⟨hx, hy, (HR0.out _ HB2.out).1, (HR0.out _ HB2.out).2, hc0.out, hc1.out⟩
    have HT := Aside0.mk HT0
    have x0 := (blk_cell hx 0).trans rfl
    have x1 := (blk_cell hx 1).trans rfl
    have y0 := (blk_cell hy 0).trans rfl
    have y1 := (blk_cell hy 1).trans rfl
    have t0 := (blk_cell ta 0).trans rfl
    have t1 := (blk_cell ta 1).trans rfl
    have t2 := (blk_cell tb 1).trans rfl
    have t3 := (blk_cell tb 0).trans rfl
    have p0 := (blk_cell tr 0).trans rfl
    have p1 := (blk_cell tr 1).trans rfl
    have p2 := blk_frozen tr 0
    have p3 := blk_frozen tr 1
    clear hW B2 hx hy ta tb tr TA1 TB1 TR1 HT0
    obtain ⟨bx, hbx⟩ : ∃ bx, bx = w1.heap.size := ⟨_, rfl⟩
    obtain ⟨bY, hbY⟩ : ∃ bY, bY = w1.heap.size + 1 := ⟨_, rfl⟩
    rw [← hbY, ← hbx] at HT ⊢
    rw [← hbY] at y0 y1
    rw [← hbx] at x0 x1
    clear hbx hbY
    by_cases hz1 : e1 = 0
    · subst hz1
      have h := (if_pos rfl).symm.trans HI.out
      clear HI
      unfold convG at h
      obtain ⟨m1, hm1⟩ : ∃ m1, wrap64 ((l0_0.length : Int) + (l1_0.length : Int)) = m1 := ⟨_, rfl⟩
      rw [hm1] at h
      have hm2 : IntKind.i64.wrap ((l0_0.length : Int) + (l1_0.length : Int)) = m1 := (i64_w _).trans hm1
      obtain ⟨la, hl1⟩ : ∃ la, wrap64 (m1 - 2) = la := ⟨_, rfl⟩
      rw [hl1] at h
      have hl2 : IntKind.i64.wrap (m1 - 2) = la := (i64_w _).trans hl1
      obtain ⟨v, hv, h⟩ := Option.bind_eq_some_iff.1 h
      obtain ⟨u, hu, h⟩ := Option.bind_eq_some_iff.1 h
      obtain ⟨c, hc, h⟩ := Option.bind_eq_some_iff.1 h
      obtain ⟨lb, hl3⟩ : ∃ lb, wrap64 (la + 1) = lb := ⟨_, rfl⟩
      rw [hl3] at h
      have hl4 : IntKind.i64.wrap (la + 1) = lb := (i64_w _).trans hl3
      obtain ⟨nn, hn1⟩ : ∃ nn, wrap64 (lb + c) = nn := ⟨_, rfl⟩
      rw [hn1] at h
      have hn2 : IntKind.i64.wrap (lb + c) = nn := (i64_w _).trans hn1
      obtain ⟨ss, hs1⟩ : ∃ ss, mn a0_1 a1_1 = ss := ⟨_, rfl⟩
      rw [hs1] at h
      have hs2 : (if a1_1 < a0_1 then a1_1 else a0_1) = ss := hs1
      have HG := Aside0.mk h
      have HV := Aside0.mk hv
      have HU := Aside0.mk hu
      have HC := Aside0.mk hc
      have XB := Aside0.mk HT.out.hx
      have YB := Aside0.mk HT.out.hy
      have HB00 := Aside0.mk (below_drew (Below.refl W.heap.size W))
      clear h hv hu hc hn1 hs1 hm1 hl1 hl3
      go_wp2_with fail
      refine start_ (n := 8) (S := fun w' => w'.cell? ⟨bx, 0, none⟩ = some (.slice A0_0 l0_0.length c0_0) ∧ w'.cell? ⟨bx, 1, none⟩ = some (.int .i64 a0_1) ∧ w'.cell? ⟨bY, 0, none⟩ = some (.slice A1_0 l1_0.length c1_0) ∧ w'.cell? ⟨bY, 1, none⟩ = some (.int .i64 a1_1)) (ds := []) #[false, false, false, false, false, false, false, false] (by kernel_rfl) rfl rfl ⟨x0, x1, y0, y1⟩ (fun hHeld => ?_)
      refine take_ (i := 0) (N := some 26) (v := ?_) (a' := ?_) #[true, false, false, false, false, false, false, false] rfl rfl (by kernel_rfl) (fun _ _ _ h => h) (Or.inl ⟨by rfl, ?_⟩) hHeld ?_ ?_
      rotate_left
      · rintro w' ⟨s0, s1, s2, s3⟩
        go_simp
        with_reducible rfl
      rotate_left
      · simp only [Act.put, List.setIfInBounds_toArray, List.set_cons_zero, List.set_cons_succ, i64_w, i32_w]
        rfl
      refine pure_ (i := 1) (N := some 27) (v := ?_) (a' := ?_) #[true, true, false, false, false, false, false, false] rfl rfl (by kernel_rfl) (fun _ _ _ h => h) (Or.inl ⟨by rfl, ?_⟩) ?_ ?_
      rotate_left
      · intro w'
        go_simp
        with_reducible rfl
      rotate_left
      · simp only [Act.put, List.setIfInBounds_toArray, List.set_cons_zero, List.set_cons_succ, i64_w, i32_w]
        rfl
      refine take_ (i := 2) (N := some 28) (v := ?_) (a' := ?_) #[true, true, true, false, false, false, false, false] rfl rfl (by kernel_rfl) (fun _ _ _ h => h) (Or.inl ⟨by rfl, ?_⟩) hHeld ?_ ?_
      rotate_left
      · rintro w' ⟨s0, s1, s2, s3⟩
        go_simp
        with_reducible rfl
      rotate_left
      · simp only [Act.put, List.setIfInBounds_toArray, List.set_cons_zero, List.set_cons_succ, i64_w, i32_w]
        rfl
      refine pure_ (i := 3) (N := some 29) (v := ?_) (a' := ?_) #[true, true, true, true, false, false, false, false] rfl rfl (by kernel_rfl) (fun _ _ _ h => h) (Or.inl ⟨by rfl, ?_⟩) ?_ ?_
      rotate_left
      · intro w'
        go_simp
        with_reducible rfl
      rotate_left
      · simp only [Act.put, List.setIfInBounds_toArray, List.set_cons_zero, List.set_cons_succ, i64_w, i32_w]
        rfl
      refine join_ (σ := Nat × Nat) 2 #[true, true, true, true, true, true, false, false] (fun s => [(9, .pointer (some ⟨s.1, 0, none⟩)), (10, .pointer (some ⟨s.2, 0, none⟩))]) (fun s w' => Below W.heap.size W w' ∧ w'.heap[s.1]? = some (.cells #[.nilFunc] 58 (0, 0)) ∧ w'.heap[s.2]? = some (.cells #[.nilFunc] 58 (0, 0)) ∧ s.1 ≠ s.2 ∧ W.heap.size ≤ s.1 ∧ W.heap.size ≤ s.2) ?_ ?_
      rotate_left
      · intro hCont
        refine two_ (i := 4) (j := 5) (Ni := some 9) (Nj := some 10) #[true, true, true, true, true, false, false, false] #[true, true, true, true, false, true, false, false] rfl rfl rfl rfl (by kernel_rfl) (by decide) (by decide) (fun K hK => ?_) (fun K hK => ?_)
        · skip
          refine box_step (by rfl) (N := 9) rfl (cs := #[.nilFunc]) (t := 58) (by go_simp <;> rfl) ?_
          intro q4 hbe u1 hblk hbl
          have HB01 := Aside0.mk (below_then HB00.out HB00.out.size hbl)
          have HZ4_1 := Aside0.mk hblk
          have HN4_1 := Aside0.mk (show W.heap.size ≤ q4 from by rw [hbe]; exact HB00.out.size)
          clear hbe hblk hbl
          refine hK.out _ _ ⟨(blk_cell (blk_below XB.out HB01.out) 0).trans rfl, (blk_cell (blk_below XB.out HB01.out) 1).trans rfl, (blk_cell (blk_below YB.out HB01.out) 0).trans rfl, (blk_cell (blk_below YB.out HB01.out) 1).trans rfl⟩ (fun hHeld => ?_)
          clear hK K
          refine norm_ (a' := ?_) ?_ ?_
          rotate_left
          · show Act.put _ (some 9) _ = _
            simp only [Act.put, List.setIfInBounds_toArray, List.set_cons_zero, List.set_cons_succ, i64_w, i32_w]
            rfl
          refine one_ (i := 5) (N := some 10) #[true, true, true, true, true, true, false, false] rfl rfl (by kernel_rfl) (by decide) (fun K hK => ?_)
          refine box_step (by rfl) (N := 10) rfl (cs := #[.nilFunc]) (t := 58) (by go_simp <;> rfl) ?_
          intro q5 hbe u2 hblk hbl
          have HB02 := Aside0.mk (below_then HB01.out HB01.out.size hbl)
          have HZ5_2 := Aside0.mk hblk
          have HN5_2 := Aside0.mk (show W.heap.size ≤ q5 from by rw [hbe]; exact HB01.out.size)
          have HD := Aside0.mk (show q4 ≠ q5 from by rw [hbe]; exact Nat.ne_of_lt (blk_lt HZ4_1.out))
          have HZ4_2 := Aside0.mk (blk_below HZ4_1.out hbl)
          have HN4_2 := HN4_1
          clear hbe hblk hbl
          refine hK.out _ _ ⟨(blk_cell (blk_below XB.out HB02.out) 0).trans rfl, (blk_cell (blk_below XB.out HB02.out) 1).trans rfl, (blk_cell (blk_below YB.out HB02.out) 0).trans rfl, (blk_cell (blk_below YB.out HB02.out) 1).trans rfl⟩ (fun hHeld => ?_)
          clear hK K
          refine norm_ (a' := ?_) ?_ ?_
          rotate_left
          · show Act.put _ (some 10) _ = _
            simp only [Act.put, List.setIfInBounds_toArray, List.set_cons_zero, List.set_cons_succ, i64_w, i32_w]
            rfl
          exact norm_ (by simp only [putAll, Act.put, List.setIfInBounds_toArray, List.set_cons_zero, List.set_cons_succ] <;> rfl) (hCont (q4, q5) _ ⟨HB02.out, HZ4_2.out, HZ5_2.out, HD.out, HN4_2.out, HN5_2.out⟩)
        · skip
          refine box_step (by rfl) (N := 10) rfl (cs := #[.nilFunc]) (t := 58) (by go_simp <;> rfl) ?_
          intro q5 hbe u1 hblk hbl
          have HB01 := Aside0.mk (below_then HB00.out HB00.out.size hbl)
          have HZ5_1 := Aside0.mk hblk
          have HN5_1 := Aside0.mk (show W.heap.size ≤ q5 from by rw [hbe]; exact HB00.out.size)
          clear hbe hblk hbl
          refine hK.out _ _ ⟨(blk_cell (blk_below XB.out HB01.out) 0).trans rfl, (blk_cell (blk_below XB.out HB01.out) 1).trans rfl, (blk_cell (blk_below YB.out HB01.out) 0).trans rfl, (blk_cell (blk_below YB.out HB01.out) 1).trans rfl⟩ (fun hHeld => ?_)
          clear hK K
          refine norm_ (a' := ?_) ?_ ?_
          rotate_left
          · show Act.put _ (some 10) _ = _
            simp only [Act.put, List.setIfInBounds_toArray, List.set_cons_zero, List.set_cons_succ, i64_w, i32_w]
            rfl
          refine one_ (i := 4) (N := some 9) #[true, true, true, true, true, true, false, false] rfl rfl (by kernel_rfl) (by decide) (fun K hK => ?_)
          refine box_step (by rfl) (N := 9) rfl (cs := #[.nilFunc]) (t := 58) (by go_simp <;> rfl) ?_
          intro q4 hbe u2 hblk hbl
          have HB02 := Aside0.mk (below_then HB01.out HB01.out.size hbl)
          have HZ4_2 := Aside0.mk hblk
          have HN4_2 := Aside0.mk (show W.heap.size ≤ q4 from by rw [hbe]; exact HB01.out.size)
          have HD := Aside0.mk (show q5 ≠ q4 from by rw [hbe]; exact Nat.ne_of_lt (blk_lt HZ5_1.out))
          have HZ5_2 := Aside0.mk (blk_below HZ5_1.out hbl)
          have HN5_2 := HN5_1
          clear hbe hblk hbl
          refine hK.out _ _ ⟨(blk_cell (blk_below XB.out HB02.out) 0).trans rfl, (blk_cell (blk_below XB.out HB02.out) 1).trans rfl, (blk_cell (blk_below YB.out HB02.out) 0).trans rfl, (blk_cell (blk_below YB.out HB02.out) 1).trans rfl⟩ (fun hHeld => ?_)
          clear hK K
          refine norm_ (a' := ?_) ?_ ?_
          rotate_left
          · show Act.put _ (some 9) _ = _
            simp only [Act.put, List.setIfInBounds_toArray, List.set_cons_zero, List.set_cons_succ, i64_w, i32_w]
            rfl
          exact norm_ (by simp only [putAll, Act.put, List.setIfInBounds_toArray, List.set_cons_zero, List.set_cons_succ] <;> rfl) (hCont (q4, q5) _ ⟨HB02.out, HZ4_2.out, HZ5_2.out, HD.out.symm, HN4_2.out, HN5_2.out⟩)
      rintro ⟨b9, b10⟩ V0 ⟨hB, hZ, hY, hD, hN, hM⟩
      simp only at hZ hY hD hN hM
      have HBV0 := Aside0.mk hB
      have HZ90 := Aside0.mk hZ
      have HZ100 := Aside0.mk hY
      have HD := Aside0.mk hD
      have HN := Aside0.mk hN
      have HM := Aside0.mk hM
      clear hB hZ hY hD hN hM
      have hHeld : V0.cell? ⟨bx, 0, none⟩ = some (.slice A0_0 l0_0.length c0_0) ∧ V0.cell? ⟨bx, 1, none⟩ = some (.int .i64 a0_1) ∧ V0.cell? ⟨bY, 0, none⟩ = some (.slice A1_0 l1_0.length c1_0) ∧ V0.cell? ⟨bY, 1, none⟩ = some (.int .i64 a1_1) := ⟨(blk_cell (blk_below XB.out HBV0.out) 0).trans rfl, (blk_cell (blk_below XB.out HBV0.out) 1).trans rfl, (blk_cell (blk_below YB.out HBV0.out) 0).trans rfl, (blk_cell (blk_below YB.out HBV0.out) 1).trans rfl⟩
      refine norm_ (a' := ?_) ?_ ?_
      rotate_left
      · simp only [putAll, Act.put, List.setIfInBounds_toArray, List.set_cons_zero, List.set_cons_succ]
        rfl
      refine one_ (i := 6) (N := none) #[true, true, true, true, true, true, true, false] rfl rfl (by kernel_rfl) (by decide) (fun K hK => ?_)
      have z := (blk_cell HZ90.out 0).trans rfl
      have zf := blk_frozen HZ90.out 0
      refine skip_ (w1 := ?_) (by rfl) rfl ?_ ?_
      rotate_left
      · go_simp
        rfl
      obtain ⟨V1, hu⟩ : ∃ u, u = World.setCell V0 ⟨b9, 0, none⟩ (atV A0_0 c0_0 l0_0 a0_1) := ⟨_, rfl⟩
      rw [← hu]
      have HBV1 := Aside0.mk (show Below W.heap.size W V1 from by rw [hu]; exact HBV0.out.setCell (p := ⟨b9, 0, none⟩) HN.out _)
      have HZ91 : Aside0 (V1.heap[b9]? = some (.cells #[atV A0_0 c0_0 l0_0 a0_1] 58 (0, 0))) := ⟨by rw [hu]; exact blk_put HZ90.out 0 _ rfl⟩
      have HZ101 := Aside0.mk (show V1.heap[b10]? = some (.cells #[.nilFunc] 58 (0, 0)) from by rw [hu]; exact blk_far HZ100.out HD.out.symm _)
      clear z zf hu
      refine hK.out _ _ ⟨(blk_cell (blk_below XB.out HBV1.out) 0).trans rfl, (blk_cell (blk_below XB.out HBV1.out) 1).trans rfl, (blk_cell (blk_below YB.out HBV1.out) 0).trans rfl, (blk_cell (blk_below YB.out HBV1.out) 1).trans rfl⟩ (fun hHeld => ?_)
      clear hK K
      refine one_ (i := 7) (N := none) #[true, true, true, true, true, true, true, true] rfl rfl (by kernel_rfl) (by decide) (fun K hK => ?_)
      have z := (blk_cell HZ101.out 0).trans rfl
      have zf := blk_frozen HZ101.out 0
      refine skip_ (w1 := ?_) (by rfl) rfl ?_ ?_
      rotate_left
      · go_simp
        rfl
      obtain ⟨V, hu⟩ : ∃ u, u = World.setCell V1 ⟨b10, 0, none⟩ (atV A1_0 c1_0 l1_0 a1_1) := ⟨_, rfl⟩
      rw [← hu]
      have HBV := Aside0.mk (show Below W.heap.size W V from by rw [hu]; exact HBV1.out.setCell (p := ⟨b10, 0, none⟩) HM.out _)
      have HZ10 : Aside0 (V.heap[b10]? = some (.cells #[atV A1_0 c1_0 l1_0 a1_1] 58 (0, 0))) := ⟨by rw [hu]; exact blk_put HZ101.out 0 _ rfl⟩
      have HZ9 := Aside0.mk (show V.heap[b9]? = some (.cells #[atV A0_0 c0_0 l0_0 a0_1] 58 (0, 0)) from by rw [hu]; exact blk_far HZ91.out HD.out _)
      clear z zf hu
      refine hK.out _ _ ⟨(blk_cell (blk_below XB.out HBV.out) 0).trans rfl, (blk_cell (blk_below XB.out HBV.out) 1).trans rfl, (blk_cell (blk_below YB.out HBV.out) 0).trans rfl, (blk_cell (blk_below YB.out HBV.out) 1).trans rfl⟩ (fun hHeld => ?_)
      clear hK K
      refine done_ (by kernel_rfl) ?_

      clear x0 x1 y0 y1 t0 t1 t2 t3 p0 p1 p2 p3 hHeld
      have ta5 := blk_below TA.out HBV.out
      have tb5 := blk_below TB.out HBV.out
      have TA5 := Aside0.mk ta5
      have TB5 := Aside0.mk tb5
      have t0 := (blk_cell ta5 0).trans rfl
      have t3 := (blk_cell tb5 0).trans rfl
      clear ta5 tb5
      go_wp2_with fail
      go_quiet (fail)
      clear t0 t3
      refine name_then ?_
      intro V2 hV2
      have HBV2 := Aside0.mk (show Below W.heap.size W V2 by have := hV2.out; subst this; exact pw_below_drewN HBV.out _)
      have HV9 := Aside0.mk (show V2.heap[b9]? = _ by have := hV2.out; subst this; exact HZ9.out)
      have HV10 := Aside0.mk (show V2.heap[b10]? = _ by have := hV2.out; subst this; exact HZ10.out)
      clear hV2
      have ta5 := blk_below TA.out HBV2.out
      have tb5 := blk_below TB.out HBV2.out
      have TA6 := Aside0.mk ta5
      have TB6 := Aside0.mk tb5
      have t1 := (blk_cell ta5 1).trans rfl
      have t2 := (blk_cell tb5 1).trans rfl
      have z9 := (blk_cell HV9.out 0).trans rfl
      have z10 := (blk_cell HV10.out 0).trans rfl
      clear ta5 tb5
      have HR : Aside0 (∀ W', Below V2.heap.size V2 W' → Kd.C (Kd.int .i64) W' A0_0 l0_0.length l0_0 ∧ Kd.C (Kd.int .i64) W' A1_0 l1_0.length l1_0) := ⟨fun W' hW' => ⟨((HT.out.below HBV2.out).below hW').r0, ((HT.out.below HBV2.out).below hW').r1⟩⟩
      have HM0 := Aside0.mk (below_drew (Below.refl V2.heap.size V2))
      go_wp2_with fail
      refine start_ (n := 18) (S := fun w' => w'.cell? ⟨w.heap.size, 1, none⟩ = some (.int .i64 a0_1) ∧ w'.cell? ⟨w.heap.size + 1, 1, none⟩ = some (.int .i64 a1_1) ∧ w'.cell? ⟨b9, 0, none⟩ = some (atV A0_0 c0_0 l0_0 a0_1) ∧ w'.cell? ⟨b10, 0, none⟩ = some (atV A1_0 c1_0 l1_0 a1_1)) (ds := []) #[false, false, false, false, false, false, false, false, false, false, false, false, false, false, false, false, false, false] (by kernel_rfl) rfl rfl ⟨t1, t2, z9, z10⟩ (fun hHeld => ?_)
      refine pure_ (i := 0) (N := some 40) (v := ?_) (a' := ?_) #[true, false, false, false, false, false, false, false, false, false, false, false, false, false, false, false, false, false] rfl rfl (by kernel_rfl) (fun _ _ _ h => h) (Or.inl ⟨by rfl, ?_⟩) ?_ ?_
      rotate_left
      · intro w'
        go_simp
        with_reducible rfl
      rotate_left
      · simp only [Act.put, List.setIfInBounds_toArray, List.set_cons_zero, List.set_cons_succ, i64_w, i32_w]
        rfl
      refine pure_ (i := 1) (N := some 41) (v := ?_) (a' := ?_) #[true, true, false, false, false, false, false, false, false, false, false, false, false, false, false, false, false, false] rfl rfl (by kernel_rfl) (fun _ _ _ h => h) (Or.inl ⟨by rfl, ?_⟩) ?_ ?_
      rotate_left
      · intro w'
        go_simp
        with_reducible rfl
      rotate_left
      · simp only [Act.put, List.setIfInBounds_toArray, List.set_cons_zero, List.set_cons_succ, i64_w, i32_w]
        rfl
      refine pure_ (i := 5) (N := some 45) (v := ?_) (a' := ?_) #[true, true, false, false, false, true, false, false, false, false, false, false, false, false, false, false, false, false] rfl rfl (by kernel_rfl) (fun _ _ _ h => h) (Or.inl ⟨by rfl, ?_⟩) ?_ ?_
      rotate_left
      · intro w'
        go_simp
        with_reducible rfl
      rotate_left
      · simp only [Act.put, List.setIfInBounds_toArray, List.set_cons_zero, List.set_cons_succ, i64_w, i32_w]
        rfl
      refine pure_ (i := 8) (N := some 48) (v := ?_) (a' := ?_) #[true, true, false, false, false, true, false, false, true, false, false, false, false, false, false, false, false, false] rfl rfl (by kernel_rfl) (fun _ _ _ h => h) (Or.inl ⟨by rfl, ?_⟩) ?_ ?_
      rotate_left
      · intro w'
        go_simp
        with_reducible rfl
      rotate_left
      · simp only [Act.put, List.setIfInBounds_toArray, List.set_cons_zero, List.set_cons_succ, i64_w, i32_w]
        rfl
      refine pure_ (i := 9) (N := some 49) (v := ?_) (a' := ?_) #[true, true, false, false, false, true, false, false, true, true, false, false, false, false, false, false, false, false] rfl rfl (by kernel_rfl) (fun _ _ _ h => h) (Or.inl ⟨by rfl, ?_⟩) ?_ ?_
      rotate_left
      · intro w'
        go_simp
        with_reducible rfl
      rotate_left
      · simp only [Act.put, List.setIfInBounds_toArray, List.set_cons_zero, List.set_cons_succ, i64_w, i32_w]
        rfl
      refine pure_ (i := 13) (N := some 53) (v := ?_) (a' := ?_) #[true, true, false, false, false, true, false, false, true, true, false, false, false, true, false, false, false, false] rfl rfl (by kernel_rfl) (fun _ _ _ h => h) (Or.inl ⟨by rfl, ?_⟩) ?_ ?_
      rotate_left
      · intro w'
        go_simp
        with_reducible rfl
      rotate_left
      · simp only [Act.put, List.setIfInBounds_toArray, List.set_cons_zero, List.set_cons_succ, i64_w, i32_w]
        rfl
      refine take_ (i := 2) (N := some 42) (v := ?_) (a' := ?_) #[true, true, true, false, false, true, false, false, true, true, false, false, false, true, false, false, false, false] rfl rfl (by kernel_rfl) (fun _ _ _ h => h) (Or.inl ⟨by rfl, ?_⟩) hHeld ?_ ?_
      rotate_left
      · rintro w' ⟨s0, s1, s2, s3⟩
        go_simp
        with_reducible rfl
      rotate_left
      · simp only [Act.put, List.setIfInBounds_toArray, List.set_cons_zero, List.set_cons_succ, i64_w, i32_w]
        rfl
      refine take_ (i := 3) (N := some 43) (v := ?_) (a' := ?_) #[true, true, true, true, false, true, false, false, true, true, false, false, false, true, false, false, false, false] rfl rfl (by kernel_rfl) (fun _ _ _ h => h) (Or.inl ⟨by rfl, ?_⟩) hHeld ?_ ?_
      rotate_left
      · rintro w' ⟨s0, s1, s2, s3⟩
        go_simp
        with_reducible rfl
      rotate_left
      · simp only [Act.put, List.setIfInBounds_toArray, List.set_cons_zero, List.set_cons_succ, i64_w, i32_w]
        rfl
      refine take_ (i := 6) (N := some 46) (v := ?_) (a' := ?_) #[true, true, true, true, false, true, true, false, true, true, false, false, false, true, false, false, false, false] rfl rfl (by kernel_rfl) (fun _ _ _ h => h) (Or.inl ⟨by rfl, ?_⟩) hHeld ?_ ?_
      rotate_left
      · rintro w' ⟨s0, s1, s2, s3⟩
        go_simp
        with_reducible rfl
      rotate_left
      · simp only [Act.put, List.setIfInBounds_toArray, List.set_cons_zero, List.set_cons_succ, i64_w, i32_w]
        rfl
      refine take_ (i := 10) (N := some 50) (v := ?_) (a' := ?_) #[true, true, true, true, false, true, true, false, true, true, true, false, false, true, false, false, false, false] rfl rfl (by kernel_rfl) (fun _ _ _ h => h) (Or.inl ⟨by rfl, ?_⟩) hHeld ?_ ?_
      rotate_left
      · rintro w' ⟨s0, s1, s2, s3⟩
        go_simp
        with_reducible rfl
      rotate_left
      · simp only [Act.put, List.setIfInBounds_toArray, List.set_cons_zero, List.set_cons_succ, i64_w, i32_w]
        rfl
      refine take_ (i := 11) (N := some 51) (v := ?_) (a' := ?_) #[true, true, true, true, false, true, true, false, true, true, true, true, false, true, false, false, false, false] rfl rfl (by kernel_rfl) (fun _ _ _ h => h) (Or.inl ⟨by rfl, ?_⟩) hHeld ?_ ?_
      rotate_left
      · rintro w' ⟨s0, s1, s2, s3⟩
        go_simp
        with_reducible rfl
      rotate_left
      · simp only [Act.put, List.setIfInBounds_toArray, List.set_cons_zero, List.set_cons_succ, i64_w, i32_w]
        rfl
      refine take_ (i := 14) (N := some 54) (v := ?_) (a' := ?_) #[true, true, true, true, false, true, true, false, true, true, true, true, false, true, true, false, false, false] rfl rfl (by kernel_rfl) (fun _ _ _ h => h) (Or.inl ⟨by rfl, ?_⟩) hHeld ?_ ?_
      rotate_left
      · rintro w' ⟨s0, s1, s2, s3⟩
        go_simp
        with_reducible rfl
      rotate_left
      · simp only [Act.put, List.setIfInBounds_toArray, List.set_cons_zero, List.set_cons_succ, i64_w, i32_w]
        rfl
      refine one_ (i := 4) (N := some 44) #[true, true, true, true, true, true, true, false, true, true, true, true, false, true, true, false, false, false] rfl rfl (by kernel_rfl) (by decide) (fun K hK => ?_)
      refine goes_ Try.func48 (by kernel_rfl) rfl #[.int .i64 (l0_0.length : Int), .int .i64 la, atV A0_0 c0_0 l0_0 a0_1, atV A1_0 c1_0 l1_0 a1_1] (by rfl) rfl rfl (by simp only [List.map_toArray, List.map_cons, List.map_nil] <;> rfl) ?_
      with_reducible refine (curve_least.calls k (l0_0.length : Int) la 44 #[.agg #[.slice A0_0 l0_0.length c0_0, .int .i64 a0_1]] #[] (curve_curve_at.f l0_0 a0_1) 44 #[.agg #[.slice A1_0 l1_0.length c1_0, .int .i64 a1_1]] #[] (curve_curve_at.f l1_0 a1_1) v _ at_ok (at_runs A0_0 c0_0 l0_0 a0_1 _ (fun W1 hW1 => (HR.out W1 (below_then HM0.out HM0.out.size hW1)).1) hc0.out) at_ok (at_runs A1_0 c1_0 l1_0 a1_1 _ (fun W1 hW1 => (HR.out W1 (below_then HM0.out HM0.out.size hW1)).2) hc1.out) HV.out).mono ?_
      rintro e v1 ⟨rfl, hbl⟩
      refine ⟨_, rfl, ?_⟩
      have HM1 := Aside0.mk (below_then HM0.out HM0.out.size hbl)
      clear hbl
      refine hK.out _ _ ⟨(blk_cell (blk_below TA6.out HM1.out) 1).trans rfl, (blk_cell (blk_below TB6.out HM1.out) 1).trans rfl, (blk_cell (blk_below HV9.out HM1.out) 0).trans rfl, (blk_cell (blk_below HV10.out HM1.out) 0).trans rfl⟩ (fun hHeld => ?_)
      clear hK K
      refine norm_ (a' := ?_) ?_ ?_
      rotate_left
      · show Act.put _ (some 44) _ = _
        simp only [Act.put, List.setIfInBounds_toArray, List.set_cons_zero, List.set_cons_succ, i64_w, i32_w]
        rfl
      refine pure_ (i := 7) (N := some 47) (v := ?_) (a' := ?_) #[true, true, true, true, true, true, true, true, true, true, true, true, false, true, true, false, false, false] rfl rfl (by kernel_rfl) (fun _ _ _ h => h) (Or.inl ⟨by rfl, ?_⟩) ?_ ?_
      rotate_left
      · intro w'
        go_simp
        with_reducible rfl
      rotate_left
      · simp only [Act.put, List.setIfInBounds_toArray, List.set_cons_zero, List.set_cons_succ, i64_w, i32_w]
        rfl
      refine one_ (i := 12) (N := some 52) #[true, true, true, true, true, true, true, true, true, true, true, true, true, true, true, false, false, false] rfl rfl (by kernel_rfl) (by decide) (fun K hK => ?_)
      refine goes_ Try.func48 (by kernel_rfl) rfl #[.int .i64 (l1_0.length : Int), .int .i64 la, atV A1_0 c1_0 l1_0 a1_1, atV A0_0 c0_0 l0_0 a0_1] (by rfl) rfl rfl (by simp only [List.map_toArray, List.map_cons, List.map_nil] <;> rfl) ?_
      with_reducible refine (curve_least.calls k (l1_0.length : Int) la 44 #[.agg #[.slice A1_0 l1_0.length c1_0, .int .i64 a1_1]] #[] (curve_curve_at.f l1_0 a1_1) 44 #[.agg #[.slice A0_0 l0_0.length c0_0, .int .i64 a0_1]] #[] (curve_curve_at.f l0_0 a0_1) u _ at_ok (at_runs A1_0 c1_0 l1_0 a1_1 _ (fun W1 hW1 => (HR.out W1 (below_then HM1.out HM1.out.size hW1)).2) hc1.out) at_ok (at_runs A0_0 c0_0 l0_0 a0_1 _ (fun W1 hW1 => (HR.out W1 (below_then HM1.out HM1.out.size hW1)).1) hc0.out) HU.out).mono ?_
      rintro e v2 ⟨rfl, hbl⟩
      refine ⟨_, rfl, ?_⟩
      have HM2 := Aside0.mk (below_then HM1.out HM1.out.size hbl)
      clear hbl
      refine hK.out _ _ ⟨(blk_cell (blk_below TA6.out HM2.out) 1).trans rfl, (blk_cell (blk_below TB6.out HM2.out) 1).trans rfl, (blk_cell (blk_below HV9.out HM2.out) 0).trans rfl, (blk_cell (blk_below HV10.out HM2.out) 0).trans rfl⟩ (fun hHeld => ?_)
      clear hK K
      refine norm_ (a' := ?_) ?_ ?_
      rotate_left
      · show Act.put _ (some 52) _ = _
        simp only [Act.put, List.setIfInBounds_toArray, List.set_cons_zero, List.set_cons_succ, i64_w, i32_w]
        rfl
      refine pure_ (i := 15) (N := some 55) (v := ?_) (a' := ?_) #[true, true, true, true, true, true, true, true, true, true, true, true, true, true, true, true, false, false] rfl rfl (by kernel_rfl) (fun _ _ _ h => h) (Or.inl ⟨by rfl, ?_⟩) ?_ ?_
      rotate_left
      · intro w'
        go_simp
        with_reducible rfl
      rotate_left
      · simp only [Act.put, List.setIfInBounds_toArray, List.set_cons_zero, List.set_cons_succ, i64_w, i32_w]
        rfl
      refine one_ (i := 16) (N := some 56) #[true, true, true, true, true, true, true, true, true, true, true, true, true, true, true, true, true, false] rfl rfl (by kernel_rfl) (by decide) (fun K hK => ?_)
      refine goes_ Try.func47 (by kernel_rfl) rfl #[.agg #[.int .i64 v, .int .i64 a1_1], .agg #[.int .i64 u, .int .i64 a0_1]] (by rfl) rfl rfl (by simp only [List.map_toArray, List.map_cons, List.map_nil] <;> rfl) ?_
      with_reducible refine (curve_crossing.calls v a1_1 u a0_1 c _ HC.out).mono ?_
      rintro e v3 ⟨rfl, hbl⟩
      refine ⟨_, rfl, ?_⟩
      have HM3 := Aside0.mk (below_then HM2.out HM2.out.size hbl)
      clear hbl
      refine hK.out _ _ ⟨(blk_cell (blk_below TA6.out HM3.out) 1).trans rfl, (blk_cell (blk_below TB6.out HM3.out) 1).trans rfl, (blk_cell (blk_below HV9.out HM3.out) 0).trans rfl, (blk_cell (blk_below HV10.out HM3.out) 0).trans rfl⟩ (fun hHeld => ?_)
      clear hK K
      refine norm_ (a' := ?_) ?_ ?_
      rotate_left
      · show Act.put _ (some 56) _ = _
        simp only [Act.put, List.setIfInBounds_toArray, List.set_cons_zero, List.set_cons_succ, i64_w, i32_w]
        rfl
      refine pure_ (i := 17) (N := some 14) (v := ?_) (a' := ?_) #[true, true, true, true, true, true, true, true, true, true, true, true, true, true, true, true, true, true] rfl rfl (by kernel_rfl) (fun _ _ _ h => h) (Or.inl ⟨by rfl, ?_⟩) ?_ ?_
      rotate_left
      · intro w'
        go_simp
        with_reducible rfl
      rotate_left
      · simp only [Act.put, List.setIfInBounds_toArray, List.set_cons_zero, List.set_cons_succ, i64_w, i32_w]
        rfl
      refine done_ (by kernel_rfl) ?_

      clear hHeld t1 t2 z9 z10 hm2 hl2
      have ta5 := blk_below TA6.out HM3.out
      have tb5 := blk_below TB6.out HM3.out
      have t1 := (blk_cell ta5 1).trans rfl
      have t2 := (blk_cell tb5 1).trans rfl
      clear ta5 tb5
      go_wp2_with fail
      refine (curve_made.calls k nn ss 50 #[] #[.pointer (some ⟨b9, 0, none⟩), .pointer (some ⟨b10, 0, none⟩)] (convF k l0_0 a0_1 l1_0 a1_1) r1 r2 r3 v3 conv_ok (fun x r W' hW' hF => conv_run k b9 b10 A0_0 c0_0 l0_0 a0_1 A1_0 c1_0 l1_0 a1_1 x r W' (blk_below (blk_below HV9.out HM3.out) hW') (blk_below (blk_below HV10.out HM3.out) hW') (HR.out _ (below_then HM3.out HM3.out.size hW')).1 hc0.out (HR.out _ (below_then HM3.out HM3.out.size hW')).2 hc1.out hF) HG.out).mono ?_
      have HBM := Aside0.mk (below_then (below_then HB2.out HB2.out.size HBV2.out) (below_then HB2.out HB2.out.size HBV2.out).size HM3.out)
      have HWV := Aside0.mk (below_then HBV2.out HBV2.out.size HM3.out)
      clear hl4
      clear hn2 hs2
      rintro e w3 ⟨v0_, rfl, R0, hb⟩
      obtain ⟨BR, dR, rfl⟩ := Kd.R_slice R0
      have tr3 := blk_below TR.out (below_then HWV.out HWV.out.size hb)
      have TR3 := Aside0.mk tr3
      have HB3 := Aside0.mk (below_then HBM.out HBM.out.size hb)
      have RR := Aside0.mk R0
      have HL3 := Aside0.mk (show w.heap.size + 1 + 1 < v3.heap.size from Nat.lt_of_lt_of_le HL2.out HWV.out.size)
      clear hb R0 t1 t2
      have p0 := (blk_cell tr3 0).trans rfl
      have p1 := (blk_cell tr3 1).trans rfl
      have p2 := blk_frozen tr3 0
      have p3 := blk_frozen tr3 1
      clear tr3
      go_wp2
      refine bodyPost_ret (results_ct rfl _ _ (w.heap.size + 1 + 1) 24 #[.slice BR r1.length dR, .int .i64 r2] (0, 0) _ rfl (blk_put (blk_put TR3.out 0 _ rfl) 1 _ rfl) Try.underlying24 rfl (by kernel_rfl)) rfl ?_
      exact ⟨_, rfl, Kd.R_lower (R_old (R_old RR.out HL3.out 0 _) HL3.out 1 _) (by have := HL3.out; omega), (HB3.out.setCell (p := ⟨w.heap.size + 1 + 1, 0, none⟩) (by show w.heap.size ≤ w.heap.size + 1 + 1; omega) _).setCell (p := ⟨w.heap.size + 1 + 1, 1, none⟩) (by show w.heap.size ≤ w.heap.size + 1 + 1; omega) _⟩
    · have h := HI.out
      rw [if_neg hz1] at h
      have e := Option.some.inj h
      simp only [Prod.mk.injEq] at e
      obtain ⟨rfl, rfl, rfl⟩ := e
      have q0 : (e1 != 0) = true := by simpa using hz1
      clear h hz1 HI
      go_wp2
      refine bodyPost_ret (results_ct rfl _ _ (w.heap.size + 1 + 1) 24 #[.slice none 0 0, .int .i64 0] (0, 0) _ rfl (blk_put (blk_put TR.out 0 _ rfl) 1 _ rfl) Try.underlying24 rfl (by kernel_rfl)) rfl ?_
      exact ⟨_, rfl, Kd.R_nil _ _ _ _ _, (HB2.out.setCell (p := ⟨w.heap.size + 1 + 1, 0, none⟩) (by show w.heap.size ≤ w.heap.size + 1 + 1; omega) _).setCell (p := ⟨w.heap.size + 1 + 1, 1, none⟩) (by show w.heap.size ≤ w.heap.size + 1 + 1; omega) _⟩
  · have h := HH.out
    rw [if_neg hz] at h
    have e := Option.some.inj h
    simp only [Prod.mk.injEq] at e
    obtain ⟨rfl, rfl, rfl⟩ := e
    have q0 : (e0 != 0) = true := by simpa using hz
    have HZ := Aside0.mk hz
    clear h hz HH
    go_enter Try.func21, Try.ntmps21
    go_wp2_with fail
    refine (pair_bad k A0_0 c0_0 l0_0 a0_1 A1_0 c1_0 l1_0 a1_1 e0 _ (HR0.out _ HB0.out).1 hc0.out (HR0.out _ HB0.out).2 hc1.out H0.out HZ.out).mono ?_
    rintro e w1 ⟨rfl, hb⟩
    obtain ⟨B1, _, _, tr, hlt⟩ := args_begin3 w _ _ _ hb
    have HB1 := Aside0.mk B1
    have TR1 := Aside0.mk tr
    clear hb B1 tr hlt
    go_upto_region 2 with (fail)
    refine name_world ?_
    intro W hW
    have b2 := (two_begin w1 _ _ hW.out).1
    have HB2 := Aside0.mk (below_then HB1.out HB1.out.size b2)
    have tr := blk_below TR1.out b2
    have TR := Aside0.mk tr
    have p0 := (blk_cell tr 0).trans rfl
    have p1 := (blk_cell tr 1).trans rfl
    have p2 := blk_frozen tr 0
    have p3 := blk_frozen tr 1
    clear hW b2 tr TR1
    go_wp2
    refine bodyPost_ret (results_ct rfl _ _ (w.heap.size + 1 + 1) 24 #[.slice none 0 0, .int .i64 0] (0, 0) _ rfl (blk_put (blk_put TR.out 0 _ rfl) 1 _ rfl) Try.underlying24 rfl (by kernel_rfl)) rfl ?_
    exact ⟨_, rfl, Kd.R_nil _ _ _ _ _, (HB2.out.setCell (p := ⟨w.heap.size + 1 + 1, 0, none⟩) (by show w.heap.size ≤ w.heap.size + 1 + 1; omega) _).setCell (p := ⟨w.heap.size + 1 + 1, 1, none⟩) (by show w.heap.size ≤ w.heap.size + 1 + 1; omega) _⟩
end Go.Proofs.Ytanlonngekgibaa.Pr

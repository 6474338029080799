/- curve.Min, curve.Add. -/
import Derived.Test.YtanlonngekgibaaGBack
import Derived.Test.YtanlonngekgibaaF49
import Derived.Test.YtanlonngekgibaaF47
import Derived.IntWalk
namespace Go.Proofs.Ytanlonngekgibaa.Pr
open Go.RowKit Go.Proofs.YtanlonngekgibaaW.PrintWords Go.Proofs.YtanlonngekgibaaW.PrintLast Go.Proofs.YtanlonngekgibaaW.PrintMore
set_option linter.unusedVariables false
set_option linter.unusedSimpArgs false
attribute [local go_sem] max2_int min2_int max_two min_two max_three min_three max_four min_four

theorem add_ok : FnOk Try.prog 62 := ⟨_, Try.func62, by kernel_rfl, by kernel_rfl⟩
theorem min_ok : FnOk Try.prog 61 := ⟨_, Try.func61, by kernel_rfl, by kernel_rfl⟩
theorem args_begin3 (w : World) (o0 o1 o2 : Obj) {w1 : World} (h : Below (((w.alloc o0).alloc o1).alloc o2).heap.size (((w.alloc o0).alloc o1).alloc o2) w1) : Below w.heap.size w w1 ∧ w1.heap[w.heap.size]? = some o0 ∧ w1.heap[w.heap.size + 1]? = some o1 ∧ w1.heap[w.heap.size + 1 + 1]? = some o2 ∧ w.heap.size + 1 + 1 < w1.heap.size := by
  have e1 := heap_alloc_new w o0
  have e2 := heap_alloc_new (w.alloc o0) o1
  have e3 := heap_alloc_new ((w.alloc o0).alloc o1) o2
  have hs := h.size
  simp only [World.size_alloc] at e2 e3 hs
  exact ⟨Below.trans (by repeat (first | exact Below.refl _ _ | apply below_alloc)) (h.mono (by simp; omega)), blk_below (blk_alloc (blk_alloc e1 _) _) h, blk_below (blk_alloc e2 _) h, blk_below e3 h, by omega⟩
theorem R_old {α : Type} {d : Kd α} {e : Nat} {w : World} {base : Nat} {ok : Nat → Prop} {v : Value} {xs : List α} (h : d.R e w base ok v xs) {B : Nat} (hB : B < base) (j : Nat) (u : Value) : d.R e (w.setCell ⟨B, j, none⟩ u) base ok v xs :=
  Kd.R_mono (ok := fun k => ok k ∧ k ≠ B) (Kd.R_far (p := ⟨B, j, none⟩) (Kd.R_mono (Kd.R_bound h) (fun k hk => ⟨hk.1, by have := hk.2.1; omega⟩)) (fun _ hk => hk.2) u) (fun _ hk => hk.1)

def curve_Add.f (k : Nat) (l0_0 : List Int) (a0_1 : Int) (l1_0 : List Int) (a1_1 : Int) : Option (List Int × Int × Int) :=
  (curve_Check.f k l0_0 a0_1).bind fun e0 => if e0 = 0 then (curve_Check.f k l1_0 a1_1).bind fun e1 => if e1 = 0 then (curve_made.f k (mx (l0_0.length : Int) (l1_0.length : Int)) (wrap64 (a0_1 + a1_1)) (addF l0_0 a0_1 l1_0 a1_1)) else some ([], 0, e1) else some ([], 0, e0)

set_option maxHeartbeats 2000000 in
set_option maxRecDepth 100000 in
theorem curve_Add.calls (k : Nat) (A0_0 : Option Addr) (c0_0 : Nat) (l0_0 : List Int) (a0_1 : Int) (A1_0 : Option Addr) (c1_0 : Nat) (l1_0 : List Int) (a1_1 : Int) (r1 : List Int) (r2 : Int) (r3 : Int) (w : World) (hr0_0 : Kd.C (Kd.int .i64) w A0_0 l0_0.length l0_0) (hc0_0 : l0_0.length ≤ c0_0) (hr1_0 : Kd.C (Kd.int .i64) w A1_0 l1_0.length l1_0) (hc1_0 : l1_0.length ≤ c1_0) (h : curve_Add.f k l0_0 a0_1 l1_0 a1_1 = some (r1, r2, r3)) :
    Calls Try.prog 32 #[.agg #[.slice A0_0 l0_0.length c0_0, .int .i64 a0_1], .agg #[.slice A1_0 l1_0.length c1_0, .int .i64 a1_1]] w fun e w' => ∃ v0_ : Value, e = .returned (.tuple #[.agg #[v0_, .int .i64 r2], .int .i64 r3]) ∧ Kd.R (Kd.int .i64) 3 w' w.heap.size (fun _ => True) v0_ r1 ∧ Below w.heap.size w w' := by
  have hmf : ∀ (fn : Fn) (first cap : Array Value) (w : World), (Instr.makeFunc fn first cap).run Try.prog w = .ok (.func fn first cap) w := fun _ _ _ _ => rfl
  have HR0 : Aside0 (∀ W, Below w.heap.size w W → Kd.C (Kd.int .i64) W A0_0 l0_0.length l0_0 ∧ Kd.C (Kd.int .i64) W A1_0 l1_0.length l1_0) := ⟨fun W hW => ⟨Kd.C_below hr0_0 hW, Kd.C_below hr1_0 hW⟩⟩
  have hc0 := Aside0.mk hc0_0
  have hc1 := Aside0.mk hc1_0
  have HB0 := Aside0.mk (below_alloc (below_alloc (below_alloc (Below.refl w.heap.size w) (.cells #[.slice A0_0 l0_0.length c0_0, .int .i64 a0_1] 24)) (.cells #[.slice A1_0 l1_0.length c1_0, .int .i64 a1_1] 24)) (.cells #[.slice none 0 0, .int .i64 0] 24))
  unfold curve_Add.f at h
  obtain ⟨e0, h0, h⟩ := Option.bind_eq_some_iff.1 h
  have H0 := Aside0.mk h0
  have HH := Aside0.mk h
  clear hr0_0 hr1_0 hc0_0 hc1_0 h h0
  by_cases hz : e0 = 0
  · subst hz
    obtain ⟨e1, h1, h⟩ := Option.bind_eq_some_iff.1 ((if_pos rfl).symm.trans HH.out)
    have H1 := Aside0.mk h1
    have HI := Aside0.mk h
    clear h h1
    go_enter Try.func32, Try.ntmps32
    go_wp2_with fail
    refine (pair_ok k A0_0 c0_0 l0_0 a0_1 A1_0 c1_0 l1_0 a1_1 e1 _ (HR0.out _ HB0.out).1 hc0.out (HR0.out _ HB0.out).2 hc1.out H0.out H1.out).mono ?_
    rintro e w1 ⟨rfl, hb⟩
    obtain ⟨B1, ta, tb, tr, hlt⟩ := args_begin3 w _ _ _ hb
    have HB1 := Aside0.mk B1
    have TA1 := Aside0.mk ta
    have TB1 := Aside0.mk tb
    have TR1 := Aside0.mk tr
    have HLT := Aside0.mk hlt
    clear hb B1 ta tb tr hlt
    go_upto_region 2 with (fail)
    refine name_world ?_
    intro W hW
    obtain ⟨B2, hx, hy⟩ := two_begin w1 _ _ hW.out
    have HB2 := Aside0.mk (below_then HB1.out HB1.out.size B2)
    have HL2 := Aside0.mk (Nat.lt_of_lt_of_le HLT.out B2.size)
    have ta := blk_below TA1.out B2
    have tb := blk_below TB1.out B2
    have tr := blk_below TR1.out B2
    have TA := Aside0.mk ta
    have TB := Aside0.mk tb
    have TR := Aside0.mk tr
    have HT0 : Two W w1.heap.size (w1.heap.size + 1) A0_0 c0_0 l0_0 a0_1 A1_0 c1_0 l1_0 a1_1 := ⟨hx, hy, (HR0.out _ HB2.out).1, (HR0.out _ HB2.out).2, hc0.out, hc1.out⟩
    have HT := Aside0.mk HT0
    have x0 := (blk_cell hx 0).trans rfl
    have x1 := (blk_cell hx 1).trans rfl
    have y0 := (blk_cell hy 0).trans rfl
    have y1 := (blk_cell hy 1).trans rfl
    have t0 := (blk_cell ta 0).trans rfl
    have t1 := (blk_cell ta 1).trans rfl
    have t2 := (blk_cell tb 1).trans rfl
    have t3 := (blk_cell tb 0).trans rfl
    have p0 := (blk_cell tr 0).trans rfl
    have p1 := (blk_cell tr 1).trans rfl
    have p2 := blk_frozen tr 0
    have p3 := blk_frozen tr 1
    clear hW B2 hx hy ta tb tr TA1 TB1 TR1 HT0
    obtain ⟨bx, hbx⟩ : ∃ bx, bx = w1.heap.size := ⟨_, rfl⟩
    obtain ⟨bY, hbY⟩ : ∃ bY, bY = w1.heap.size + 1 := ⟨_, rfl⟩
    rw [← hbY, ← hbx] at HT ⊢
    rw [← hbY] at y0 y1
    rw [← hbx] at x0 x1
    clear hbx hbY
    by_cases hz1 : e1 = 0
    · subst hz1
      have h := (if_pos rfl).symm.trans HI.out
      clear HI
      obtain ⟨mm, hmm⟩ : ∃ mm, mx (l0_0.length : Int) (l1_0.length : Int) = mm := ⟨_, rfl⟩
      rw [hmm] at h
      have hm1 : (if (l0_0.length : Int) < (l1_0.length : Int) then (l1_0.length : Int) else (l0_0.length : Int)) = mm := hmm
      have hm2 : (if l0_0.length < l1_0.length then (l1_0.length : Int) else (l0_0.length : Int)) = mm := by rw [← hm1]; simp only [Int.ofNat_lt]
      clear hmm
      obtain ⟨zz, hzz⟩ : ∃ zz, wrap64 (a0_1 + a1_1) = zz := ⟨_, rfl⟩
      rw [hzz] at h
      have hzw : IntKind.i64.wrap (a0_1 + a1_1) = zz := (i64_w _).trans hzz
      have HG := Aside0.mk h
      clear h
      go_wp2_with fail
      refine (curve_made.calls k mm zz 62 #[] #[.pointer (some ⟨bx, 0, none⟩), .pointer (some ⟨bY, 0, none⟩)] (addF l0_0 a0_1 l1_0 a1_1) r1 r2 r3 W add_ok (fun x r W' hW' hF => add_run bx bY A0_0 c0_0 l0_0 a0_1 A1_0 c1_0 l1_0 a1_1 x r W' (HT.out.below hW') hF) HG.out).mono ?_
      clear hm1 hm2 hzw hzz
      rintro e w3 ⟨v0_, rfl, R0, hb⟩
      obtain ⟨BR, dR, rfl⟩ := Kd.R_slice R0
      have tr3 := blk_below TR.out (id hb)
      have TR3 := Aside0.mk tr3
      have HB3 := Aside0.mk (below_then HB2.out HB2.out.size hb)
      have RR := Aside0.mk R0
      have HL3 := Aside0.mk (show w.heap.size + 1 + 1 < W.heap.size from HL2.out)
      clear p0 p1 p2 p3 hb R0 x0 x1 y0 y1 t0 t1 t2 t3
      have p0 := (blk_cell tr3 0).trans rfl
      have p1 := (blk_cell tr3 1).trans rfl
      have p2 := blk_frozen tr3 0
      have p3 := blk_frozen tr3 1
      clear tr3
      go_wp2
      refine bodyPost_ret (results_ct rfl _ _ (w.heap.size + 1 + 1) 24 #[.slice BR r1.length dR, .int .i64 r2] (0, 0) _ rfl (blk_put (blk_put TR3.out 0 _ rfl) 1 _ rfl) Try.underlying24 rfl (by kernel_rfl)) rfl ?_
      exact ⟨_, rfl, Kd.R_lower (R_old (R_old RR.out HL3.out 0 _) HL3.out 1 _) (by have := HL3.out; omega), (HB3.out.setCell (p := ⟨w.heap.size + 1 + 1, 0, none⟩) (by show w.heap.size ≤ w.heap.size + 1 + 1; omega) _).setCell (p := ⟨w.heap.size + 1 + 1, 1, none⟩) (by show w.heap.size ≤ w.heap.size + 1 + 1; omega) _⟩
    · have h := HI.out
      rw [if_neg hz1] at h
      have e := Option.some.inj h
      simp only [Prod.mk.injEq] at e
      obtain ⟨rfl, rfl, rfl⟩ := e
      have q0 : (e1 != 0) = true := by simpa using hz1
      clear h hz1 HI
      go_wp2
      refine bodyPost_ret (results_ct rfl _ _ (w.heap.size + 1 + 1) 24 #[.slice none 0 0, .int .i64 0] (0, 0) _ rfl (blk_put (blk_put TR.out 0 _ rfl) 1 _ rfl) Try.underlying24 rfl (by kernel_rfl)) rfl ?_
      exact ⟨_, rfl, Kd.R_nil _ _ _ _ _, (HB2.out.setCell (p := ⟨w.heap.size + 1 + 1, 0, none⟩) (by show w.heap.size ≤ w.heap.size + 1 + 1; omega) _).setCell (p := ⟨w.heap.size + 1 + 1, 1, none⟩) (by show w.heap.size ≤ w.heap.size + 1 + 1; omega) _⟩
  · have h := HH.out
    rw [if_neg hz] at h
    have e := Option.some.inj h
    simp only [Prod.mk.injEq] at e
    obtain ⟨rfl, rfl, rfl⟩ := e
    have q0 : (e0 != 0) = true := by simpa using hz
    have HZ := Aside0.mk hz
    clear h hz HH
    go_enter Try.func32, Try.ntmps32
    go_wp2_with fail
    refine (pair_bad k A0_0 c0_0 l0_0 a0_1 A1_0 c1_0 l1_0 a1_1 e0 _ (HR0.out _ HB0.out).1 hc0.out (HR0.out _ HB0.out).2 hc1.out H0.out HZ.out).mono ?_
    rintro e w1 ⟨rfl, hb⟩
    obtain ⟨B1, _, _, tr, hlt⟩ := args_begin3 w _ _ _ hb
    have HB1 := Aside0.mk B1
    have TR1 := Aside0.mk tr
    clear hb B1 tr hlt
    go_upto_region 2 with (fail)
    refine name_world ?_
    intro W hW
    have b2 := (two_begin w1 _ _ hW.out).1
    have HB2 := Aside0.mk (below_then HB1.out HB1.out.size b2)
    have tr := blk_below TR1.out b2
    have TR := Aside0.mk tr
    have p0 := (blk_cell tr 0).trans rfl
    have p1 := (blk_cell tr 1).trans rfl
    have p2 := blk_frozen tr 0
    have p3 := blk_frozen tr 1
    clear hW b2 tr TR1
    go_wp2
    refine bodyPost_ret (results_ct rfl _ _ (w.heap.size + 1 + 1) 24 #[.slice none 0 0, .int .i64 0] (0, 0) _ rfl (blk_put (blk_put TR.out 0 _ rfl) 1 _ rfl) Try.underlying24 rfl (by kernel_rfl)) rfl ?_
    exact ⟨_, rfl, Kd.R_nil _ _ _ _ _, (HB2.out.setCell (p := ⟨w.heap.size + 1 + 1, 0, none⟩) (by show w.heap.size ≤ w.heap.size + 1 + 1; omega) _).setCell (p := ⟨w.heap.size + 1 + 1, 1, none⟩) (by show w.heap.size ≤ w.heap.size + 1 + 1; omega) _⟩

def curve_Min.f (k : Nat) (l0_0 : List Int) (a0_1 : Int) (l1_0 : List Int) (a1_1 : Int) : Option (List Int × Int × Int) :=
  (curve_Check.f k l0_0 a0_1).bind fun e0 => if e0 = 0 then (curve_Check.f k l1_0 a1_1).bind fun e1 => if e1 = 0 then ((curve_curve_at.f l0_0 a0_1 (wrap64 (mx (l0_0.length : Int) (l1_0.length : Int) - 1))).bind fun v => (curve_curve_at.f l1_0 a1_1 (wrap64 (mx (l0_0.length : Int) (l1_0.length : Int) - 1))).bind fun u => (curve_crossing.f v a0_1 u a1_1).bind fun c => curve_made.f k (wrap64 (mx (l0_0.length : Int) (l1_0.length : Int) + c)) (mn a0_1 a1_1) (minF l0_0 a0_1 l1_0 a1_1)) else some ([], 0, e1) else some ([], 0, e0)

set_option maxHeartbeats 2000000 in
set_option maxRecDepth 100000 in
theorem curve_Min.calls (k : Nat) (A0_0 : Option Addr) (c0_0 : Nat) (l0_0 : List Int) (a0_1 : Int) (A1_0 : Option Addr) (c1_0 : Nat) (l1_0 : List Int) (a1_1 : Int) (r1 : List Int) (r2 : Int) (r3 : Int) (w : World) (hr0_0 : Kd.C (Kd.int .i64) w A0_0 l0_0.length l0_0) (hc0_0 : l0_0.length ≤ c0_0) (hr1_0 : Kd.C (Kd.int .i64) w A1_0 l1_0.length l1_0) (hc1_0 : l1_0.length ≤ c1_0) (h : curve_Min.f k l0_0 a0_1 l1_0 a1_1 = some (r1, r2, r3)) :
    Calls Try.prog 30 #[.agg #[.slice A0_0 l0_0.length c0_0, .int .i64 a0_1], .agg #[.slice A1_0 l1_0.length c1_0, .int .i64 a1_1]] w fun e w' => ∃ v0_ : Value, e = .returned (.tuple #[.agg #[v0_, .int .i64 r2], .int .i64 r3]) ∧ Kd.R (Kd.int .i64) 3 w' w.heap.size (fun _ => True) v0_ r1 ∧ Below w.heap.size w w' := by
  have hmf : ∀ (fn : Fn) (first cap : Array Value) (w : World), (Instr.makeFunc fn first cap).run Try.prog w = .ok (.func fn first cap) w := fun _ _ _ _ => rfl
  have HR0 : Aside0 (∀ W, Below w.heap.size w W → Kd.C (Kd.int .i64) W A0_0 l0_0.length l0_0 ∧ Kd.C (Kd.int .i64) W A1_0 l1_0.length l1_0) := ⟨fun W hW => ⟨Kd.C_below hr0_0 hW, Kd.C_below hr1_0 hW⟩⟩
  have hc0 := Aside0.mk hc0_0
  have hc1 := Aside0.mk hc1_0
  have HB0 := Aside0.mk (below_alloc (below_alloc (below_alloc (Below.refl w.heap.size w) (.cells #[.slice A0_0 l0_0.length c0_0, .int .i64 a0_1] 24)) (.cells #[.slice A1_0 l1_0.length c1_0, .int .i64 a1_1] 24)) (.cells #[.slice none 0 0, .int .i64 0] 24))
  unfold curve_Min.f at h
  obtain ⟨e0, h0, h⟩ := Option.bind_eq_some_iff.1 h
  have H0 := Aside0.mk h0
  have HH := Aside0.mk h
  clear hr0_0 hr1_0 hc0_0 hc1_0 h h0
  by_cases hz : e0 = 0
  · subst hz
    obtain ⟨e1, h1, h⟩ := Option.bind_eq_some_iff.1 ((if_pos rfl).symm.trans HH.out)
    have H1 := Aside0.mk h1
    have HI := Aside0.mk h
    clear h h1
    go_enter Try.func30, Try.ntmps30
    go_wp2_with fail
    refine (pair_ok k A0_0 c0_0 l0_0 a0_1 A1_0 c1_0 l1_0 a1_1 e1 _ (HR0.out _ HB0.out).1 hc0.out (HR0.out _ HB0.out).2 hc1.out H0.out H1.out).mono ?_
    rintro e w1 ⟨rfl, hb⟩
    obtain ⟨B1, ta, tb, tr, hlt⟩ := args_begin3 w _ _ _ hb
    have HB1 := Aside0.mk B1
    have TA1 := Aside0.mk ta
    have TB1 := Aside0.mk tb
    have TR1 := Aside0.mk tr
    have HLT := Aside0.mk hlt
    clear hb B1 ta tb tr hlt
    go_upto_region 2 with (fail)
    refine name_world ?_
    intro W hW
    obtain ⟨B2, hx, hy⟩ := two_begin w1 _ _ hW.out
    have HB2 := Aside0.mk (below_then HB1.out HB1.out.size B2)
    have HL2 := Aside0.mk (Nat.lt_of_lt_of_le HLT.out B2.size)
    have ta := blk_below TA1.out B2
    have tb := blk_below TB1.out B2
    have tr := blk_below TR1.out B2
    have TA := Aside0.mk ta
    have TB := Aside0.mk tb
    have TR := Aside0.mk tr
    have HT0 : Two W w1.heap.size (w1.heap.size + 1) A0_0 c0_0 l0_0 a0_1 A1_0 c1_0 l1_0 a1_1 := ⟨hx, hy, (HR0.out _ HB2.out).1, (HR0.out _ HB2.out).2, hc0.out, hc1.out⟩
    have HT := Aside0.mk HT0
    have x0 := (blk_cell hx 0).trans rfl
    have x1 := (blk_cell hx 1).trans rfl
    have y0 := (blk_cell hy 0).trans rfl
    have y1 := (blk_cell hy 1).trans rfl
    have t0 := (blk_cell ta 0).trans rfl
    have t1 := (blk_cell ta 1).trans rfl
    have t2 := (blk_cell tb 1).trans rfl
    have t3 := (blk_cell tb 0).trans rfl
    have p0 := (blk_cell tr 0).trans rfl
    have p1 := (blk_cell tr 1).trans rfl
    have p2 := blk_frozen tr 0
    have p3 := blk_frozen tr 1
    clear hW B2 hx hy ta tb tr TA1 TB1 TR1 HT0
    obtain ⟨bx, hbx⟩ : ∃ bx, bx = w1.heap.size := ⟨_, rfl⟩
    obtain ⟨bY, hbY⟩ : ∃ bY, bY = w1.heap.size + 1 := ⟨_, rfl⟩
    rw [← hbY, ← hbx] at HT ⊢
    rw [← hbY] at y0 y1
    rw [← hbx] at x0 x1
    clear hbx hbY
    by_cases hz1 : e1 = 0
    · subst hz1
      have h := (if_pos rfl).symm.trans HI.out
      clear HI
      obtain ⟨mm, hmm⟩ : ∃ mm, mx (l0_0.length : Int) (l1_0.length : Int) = mm := ⟨_, rfl⟩
      rw [hmm] at h
      have hm1 : (if (l0_0.length : Int) < (l1_0.length : Int) then (l1_0.length : Int) else (l0_0.length : Int)) = mm := hmm
      have hm2 : (if l0_0.length < l1_0.length then (l1_0.length : Int) else (l0_0.length : Int)) = mm := by rw [← hm1]; simp only [Int.ofNat_lt]
      clear hmm
      obtain ⟨m1, hm3⟩ : ∃ m1, wrap64 (mm - 1) = m1 := ⟨_, rfl⟩
      rw [hm3] at h
      have hm4 : IntKind.i64.wrap (mm - 1) = m1 := (i64_w _).trans hm3
      obtain ⟨v, hv, h⟩ := Option.bind_eq_some_iff.1 h
      obtain ⟨u, hu, h⟩ := Option.bind_eq_some_iff.1 h
      obtain ⟨c, hc, h⟩ := Option.bind_eq_some_iff.1 h
      obtain ⟨nn, hn1⟩ : ∃ nn, wrap64 (mm + c) = nn := ⟨_, rfl⟩
      rw [hn1] at h
      have hn2 : IntKind.i64.wrap (mm + c) = nn := (i64_w _).trans hn1
      obtain ⟨ss, hs1⟩ : ∃ ss, mn a0_1 a1_1 = ss := ⟨_, rfl⟩
      rw [hs1] at h
      have hs2 : (if a1_1 < a0_1 then a1_1 else a0_1) = ss := hs1
      have HG := Aside0.mk h
      have HV := Aside0.mk hv
      have HU := Aside0.mk hu
      have HC := Aside0.mk hc
      have XB := Aside0.mk HT.out.hx
      have YB := Aside0.mk HT.out.hy
      have HR : Aside0 (∀ W', Below W.heap.size W W' → Kd.C (Kd.int .i64) W' A0_0 l0_0.length l0_0 ∧ Kd.C (Kd.int .i64) W' A1_0 l1_0.length l1_0) := ⟨fun W' hW' => ⟨(HT.out.below hW').r0, (HT.out.below hW').r1⟩⟩
      have HM0 := Aside0.mk (below_drew (Below.refl W.heap.size W))
      clear h hv hu hc hn1 hs1 hm3
      go_wp2_with fail
      refine start_ (n := 18) (S := fun w' => w'.cell? ⟨bx, 0, none⟩ = some (.slice A0_0 l0_0.length c0_0) ∧ w'.cell? ⟨bx, 1, none⟩ = some (.int .i64 a0_1) ∧ w'.cell? ⟨bY, 0, none⟩ = some (.slice A1_0 l1_0.length c1_0) ∧ w'.cell? ⟨bY, 1, none⟩ = some (.int .i64 a1_1) ∧ w'.cell? ⟨w.heap.size, 1, none⟩ = some (.int .i64 a0_1) ∧ w'.cell? ⟨w.heap.size + 1, 1, none⟩ = some (.int .i64 a1_1)) (ds := []) #[false, false, false, false, false, false, false, false, false, false, false, false, false, false, false, false, false, false] (by kernel_rfl) rfl rfl ⟨x0, x1, y0, y1, t1, t2⟩ (fun hHeld => ?_)
      refine pure_ (i := 0) (N := some 28) (v := ?_) (a' := ?_) #[true, false, false, false, false, false, false, false, false, false, false, false, false, false, false, false, false, false] rfl rfl (by kernel_rfl) (fun _ _ _ h => h) (Or.inl ⟨by rfl, ?_⟩) ?_ ?_
      rotate_left
      · intro w'
        go_simp
        with_reducible rfl
      rotate_left
      · simp only [Act.put, List.setIfInBounds_toArray, List.set_cons_zero, List.set_cons_succ, i64_w, i32_w]
        rfl
      refine pure_ (i := 2) (N := some 30) (v := ?_) (a' := ?_) #[true, false, true, false, false, false, false, false, false, false, false, false, false, false, false, false, false, false] rfl rfl (by kernel_rfl) (fun _ _ _ h => h) (Or.inl ⟨by rfl, ?_⟩) ?_ ?_
      rotate_left
      · intro w'
        go_simp
        with_reducible rfl
      rotate_left
      · simp only [Act.put, List.setIfInBounds_toArray, List.set_cons_zero, List.set_cons_succ, i64_w, i32_w]
        rfl
      refine pure_ (i := 3) (N := some 31) (v := ?_) (a' := ?_) #[true, false, true, true, false, false, false, false, false, false, false, false, false, false, false, false, false, false] rfl rfl (by kernel_rfl) (fun _ _ _ h => h) (Or.inl ⟨by rfl, ?_⟩) ?_ ?_
      rotate_left
      · intro w'
        go_simp
        with_reducible rfl
      rotate_left
      · simp only [Act.put, List.setIfInBounds_toArray, List.set_cons_zero, List.set_cons_succ, i64_w, i32_w]
        rfl
      refine pure_ (i := 5) (N := some 33) (v := ?_) (a' := ?_) #[true, false, true, true, false, true, false, false, false, false, false, false, false, false, false, false, false, false] rfl rfl (by kernel_rfl) (fun _ _ _ h => h) (Or.inl ⟨by rfl, ?_⟩) ?_ ?_
      rotate_left
      · intro w'
        go_simp
        with_reducible rfl
      rotate_left
      · simp only [Act.put, List.setIfInBounds_toArray, List.set_cons_zero, List.set_cons_succ, i64_w, i32_w]
        rfl
      refine pure_ (i := 9) (N := some 37) (v := ?_) (a' := ?_) #[true, false, true, true, false, true, false, false, false, true, false, false, false, false, false, false, false, false] rfl rfl (by kernel_rfl) (fun _ _ _ h => h) (Or.inl ⟨by rfl, ?_⟩) ?_ ?_
      rotate_left
      · intro w'
        go_simp
        with_reducible rfl
      rotate_left
      · simp only [Act.put, List.setIfInBounds_toArray, List.set_cons_zero, List.set_cons_succ, i64_w, i32_w]
        rfl
      refine pure_ (i := 10) (N := some 38) (v := ?_) (a' := ?_) #[true, false, true, true, false, true, false, false, false, true, true, false, false, false, false, false, false, false] rfl rfl (by kernel_rfl) (fun _ _ _ h => h) (Or.inl ⟨by rfl, ?_⟩) ?_ ?_
      rotate_left
      · intro w'
        go_simp
        with_reducible rfl
      rotate_left
      · simp only [Act.put, List.setIfInBounds_toArray, List.set_cons_zero, List.set_cons_succ, i64_w, i32_w]
        rfl
      refine pure_ (i := 12) (N := some 40) (v := ?_) (a' := ?_) #[true, false, true, true, false, true, false, false, false, true, true, false, true, false, false, false, false, false] rfl rfl (by kernel_rfl) (fun _ _ _ h => h) (Or.inl ⟨by rfl, ?_⟩) ?_ ?_
      rotate_left
      · intro w'
        go_simp
        with_reducible rfl
      rotate_left
      · simp only [Act.put, List.setIfInBounds_toArray, List.set_cons_zero, List.set_cons_succ, i64_w, i32_w]
        rfl
      refine take_ (i := 1) (N := some 29) (v := ?_) (a' := ?_) #[true, true, true, true, false, true, false, false, false, true, true, false, true, false, false, false, false, false] rfl rfl (by kernel_rfl) (fun _ _ _ h => h) (Or.inl ⟨by rfl, ?_⟩) hHeld ?_ ?_
      rotate_left
      · rintro w' ⟨s0, s1, s2, s3, s4, s5⟩
        go_simp
        with_reducible rfl
      rotate_left
      · simp only [Act.put, List.setIfInBounds_toArray, List.set_cons_zero, List.set_cons_succ, i64_w, i32_w]
        rfl
      refine take_ (i := 6) (N := some 34) (v := ?_) (a' := ?_) #[true, true, true, true, false, true, true, false, false, true, true, false, true, false, false, false, false, false] rfl rfl (by kernel_rfl) (fun _ _ _ h => h) (Or.inl ⟨by rfl, ?_⟩) hHeld ?_ ?_
      rotate_left
      · rintro w' ⟨s0, s1, s2, s3, s4, s5⟩
        go_simp
        with_reducible rfl
      rotate_left
      · simp only [Act.put, List.setIfInBounds_toArray, List.set_cons_zero, List.set_cons_succ, i64_w, i32_w]
        rfl
      refine take_ (i := 8) (N := some 36) (v := ?_) (a' := ?_) #[true, true, true, true, false, true, true, false, true, true, true, false, true, false, false, false, false, false] rfl rfl (by kernel_rfl) (fun _ _ _ h => h) (Or.inl ⟨by rfl, ?_⟩) hHeld ?_ ?_
      rotate_left
      · rintro w' ⟨s0, s1, s2, s3, s4, s5⟩
        go_simp
        with_reducible rfl
      rotate_left
      · simp only [Act.put, List.setIfInBounds_toArray, List.set_cons_zero, List.set_cons_succ, i64_w, i32_w]
        rfl
      refine take_ (i := 13) (N := some 41) (v := ?_) (a' := ?_) #[true, true, true, true, false, true, true, false, true, true, true, false, true, true, false, false, false, false] rfl rfl (by kernel_rfl) (fun _ _ _ h => h) (Or.inl ⟨by rfl, ?_⟩) hHeld ?_ ?_
      rotate_left
      · rintro w' ⟨s0, s1, s2, s3, s4, s5⟩
        go_simp
        with_reducible rfl
      rotate_left
      · simp only [Act.put, List.setIfInBounds_toArray, List.set_cons_zero, List.set_cons_succ, i64_w, i32_w]
        rfl
      refine one_ (i := 4) (N := some 32) #[true, true, true, true, true, true, true, false, true, true, true, false, true, true, false, false, false, false] rfl rfl (by kernel_rfl) (by decide) (fun K hK => ?_)
      refine goes_ Try.func44 (by kernel_rfl) rfl #[.agg #[.slice A0_0 l0_0.length c0_0, .int .i64 a0_1], .int .i64 m1] (by rfl) rfl rfl (by simp only [List.map_toArray, List.map_cons, List.map_nil] <;> rfl) ?_
      with_reducible refine (curve_curve_at.calls A0_0 c0_0 l0_0 a0_1 m1 v _ (HR.out _ HM0.out).1 hc0.out HV.out).mono ?_
      rintro e v1 ⟨rfl, hbl⟩
      refine ⟨_, rfl, ?_⟩
      have HM1 := Aside0.mk (below_then HM0.out HM0.out.size hbl)
      clear hbl
      refine hK.out _ _ ⟨(blk_cell (blk_below XB.out HM1.out) 0).trans rfl, (blk_cell (blk_below XB.out HM1.out) 1).trans rfl, (blk_cell (blk_below YB.out HM1.out) 0).trans rfl, (blk_cell (blk_below YB.out HM1.out) 1).trans rfl, (blk_cell (blk_below TA.out HM1.out) 1).trans rfl, (blk_cell (blk_below TB.out HM1.out) 1).trans rfl⟩ (fun hHeld => ?_)
      clear hK K
      refine norm_ (a' := ?_) ?_ ?_
      rotate_left
      · show Act.put _ (some 32) _ = _
        simp only [Act.put, List.setIfInBounds_toArray, List.set_cons_zero, List.set_cons_succ, i64_w, i32_w]
        rfl
      refine pure_ (i := 7) (N := some 35) (v := ?_) (a' := ?_) #[true, true, true, true, true, true, true, true, true, true, true, false, true, true, false, false, false, false] rfl rfl (by kernel_rfl) (fun _ _ _ h => h) (Or.inl ⟨by rfl, ?_⟩) ?_ ?_
      rotate_left
      · intro w'
        go_simp
        with_reducible rfl
      rotate_left
      · simp only [Act.put, List.setIfInBounds_toArray, List.set_cons_zero, List.set_cons_succ, i64_w, i32_w]
        rfl
      refine one_ (i := 11) (N := some 39) #[true, true, true, true, true, true, true, true, true, true, true, true, true, true, false, false, false, false] rfl rfl (by kernel_rfl) (by decide) (fun K hK => ?_)
      refine goes_ Try.func44 (by kernel_rfl) rfl #[.agg #[.slice A1_0 l1_0.length c1_0, .int .i64 a1_1], .int .i64 m1] (by rfl) rfl rfl (by simp only [List.map_toArray, List.map_cons, List.map_nil] <;> rfl) ?_
      with_reducible refine (curve_curve_at.calls A1_0 c1_0 l1_0 a1_1 m1 u _ (HR.out _ HM1.out).2 hc1.out HU.out).mono ?_
      rintro e v2 ⟨rfl, hbl⟩
      refine ⟨_, rfl, ?_⟩
      have HM2 := Aside0.mk (below_then HM1.out HM1.out.size hbl)
      clear hbl
      refine hK.out _ _ ⟨(blk_cell (blk_below XB.out HM2.out) 0).trans rfl, (blk_cell (blk_below XB.out HM2.out) 1).trans rfl, (blk_cell (blk_below YB.out HM2.out) 0).trans rfl, (blk_cell (blk_below YB.out HM2.out) 1).trans rfl, (blk_cell (blk_below TA.out HM2.out) 1).trans rfl, (blk_cell (blk_below TB.out HM2.out) 1).trans rfl⟩ (fun hHeld => ?_)
      clear hK K
      refine norm_ (a' := ?_) ?_ ?_
      rotate_left
      · show Act.put _ (some 39) _ = _
        simp only [Act.put, List.setIfInBounds_toArray, List.set_cons_zero, List.set_cons_succ, i64_w, i32_w]
        rfl
      refine pure_ (i := 14) (N := some 42) (v := ?_) (a' := ?_) #[true, true, true, true, true, true, true, true, true, true, true, true, true, true, true, false, false, false] rfl rfl (by kernel_rfl) (fun _ _ _ h => h) (Or.inl ⟨by rfl, ?_⟩) ?_ ?_
      rotate_left
      · intro w'
        go_simp
        with_reducible rfl
      rotate_left
      · simp only [Act.put, List.setIfInBounds_toArray, List.set_cons_zero, List.set_cons_succ, i64_w, i32_w]
        rfl
      refine one_ (i := 15) (N := some 43) #[true, true, true, true, true, true, true, true, true, true, true, true, true, true, true, true, false, false] rfl rfl (by kernel_rfl) (by decide) (fun K hK => ?_)
      refine goes_ Try.func47 (by kernel_rfl) rfl #[.agg #[.int .i64 v, .int .i64 a0_1], .agg #[.int .i64 u, .int .i64 a1_1]] (by rfl) rfl rfl (by simp only [List.map_toArray, List.map_cons, List.map_nil] <;> rfl) ?_
      with_reducible refine (curve_crossing.calls v a0_1 u a1_1 c _ HC.out).mono ?_
      rintro e v3 ⟨rfl, hbl⟩
      refine ⟨_, rfl, ?_⟩
      have HM3 := Aside0.mk (below_then HM2.out HM2.out.size hbl)
      clear hbl
      refine hK.out _ _ ⟨(blk_cell (blk_below XB.out HM3.out) 0).trans rfl, (blk_cell (blk_below XB.out HM3.out) 1).trans rfl, (blk_cell (blk_below YB.out HM3.out) 0).trans rfl, (blk_cell (blk_below YB.out HM3.out) 1).trans rfl, (blk_cell (blk_below TA.out HM3.out) 1).trans rfl, (blk_cell (blk_below TB.out HM3.out) 1).trans rfl⟩ (fun hHeld => ?_)
      clear hK K
      refine norm_ (a' := ?_) ?_ ?_
      rotate_left
      · show Act.put _ (some 43) _ = _
        simp only [Act.put, List.setIfInBounds_toArray, List.set_cons_zero, List.set_cons_succ, i64_w, i32_w]
        rfl
      refine pure_ (i := 16) (N := some 44) (v := ?_) (a' := ?_) #[true, true, true, true, true, true, true, true, true, true, true, true, true, true, true, true, true, false] rfl rfl (by kernel_rfl) (fun _ _ _ h => h) (Or.inl ⟨by rfl, ?_⟩) ?_ ?_
      rotate_left
      · intro w'
        go_simp
        with_reducible rfl
      rotate_left
      · simp only [Act.put, List.setIfInBounds_toArray, List.set_cons_zero, List.set_cons_succ, i64_w, i32_w]
        rfl
      refine pure_ (i := 17) (N := some 9) (v := ?_) (a' := ?_) #[true, true, true, true, true, true, true, true, true, true, true, true, true, true, true, true, true, true] rfl rfl (by kernel_rfl) (fun _ _ _ h => h) (Or.inl ⟨by rfl, ?_⟩) ?_ ?_
      rotate_left
      · intro w'
        go_simp
        with_reducible rfl
      rotate_left
      · simp only [Act.put, List.setIfInBounds_toArray, List.set_cons_zero, List.set_cons_succ, i64_w, i32_w]
        rfl
      refine done_ (by kernel_rfl) ?_

      clear hHeld x0 x1 y0 y1 t0 t1 t2 t3 hm1 hm2 hm4
      have ta5 := blk_below TA.out HM3.out
      have tb5 := blk_below TB.out HM3.out
      have t1 := (blk_cell ta5 1).trans rfl
      have t2 := (blk_cell tb5 1).trans rfl
      clear ta5 tb5
      go_wp2_with fail
      refine (curve_made.calls k nn ss 61 #[] #[.pointer (some ⟨bx, 0, none⟩), .pointer (some ⟨bY, 0, none⟩)] (minF l0_0 a0_1 l1_0 a1_1) r1 r2 r3 v3 min_ok (fun x r W' hW' hF => min_run bx bY A0_0 c0_0 l0_0 a0_1 A1_0 c1_0 l1_0 a1_1 x r W' ((HT.out.below HM3.out).below hW') hF) HG.out).mono ?_
      have HBM := Aside0.mk (below_then HB2.out HB2.out.size HM3.out)
      clear hn2 hs2
      rintro e w3 ⟨v0_, rfl, R0, hb⟩
      obtain ⟨BR, dR, rfl⟩ := Kd.R_slice R0
      have tr3 := blk_below TR.out (below_then HM3.out HM3.out.size hb)
      have TR3 := Aside0.mk tr3
      have HB3 := Aside0.mk (below_then HBM.out HBM.out.size hb)
      have RR := Aside0.mk R0
      have HL3 := Aside0.mk (show w.heap.size + 1 + 1 < v3.heap.size from Nat.lt_of_lt_of_le HL2.out HM3.out.size)
      clear p0 p1 p2 p3 hb R0 t1 t2
      have p0 := (blk_cell tr3 0).trans rfl
      have p1 := (blk_cell tr3 1).trans rfl
      have p2 := blk_frozen tr3 0
      have p3 := blk_frozen tr3 1
      clear tr3
      go_wp2
      refine bodyPost_ret (results_ct rfl _ _ (w.heap.size + 1 + 1) 24 #[.slice BR r1.length dR, .int .i64 r2] (0, 0) _ rfl (blk_put (blk_put TR3.out 0 _ rfl) 1 _ rfl) Try.underlying24 rfl (by kernel_rfl)) rfl ?_
      exact ⟨_, rfl, Kd.R_lower (R_old (R_old RR.out HL3.out 0 _) HL3.out 1 _) (by have := HL3.out; omega), (HB3.out.setCell (p := ⟨w.heap.size + 1 + 1, 0, none⟩) (by show w.heap.size ≤ w.heap.size + 1 + 1; omega) _).setCell (p := ⟨w.heap.size + 1 + 1, 1, none⟩) (by show w.heap.size ≤ w.heap.size + 1 + 1; omega) _⟩
    · have h := HI.out
      rw [if_neg hz1] at h
      have e := Option.some.inj h
      simp only [Prod.mk.injEq] at e
      obtain ⟨rfl, rfl, rfl⟩ := e
      have q0 : (e1 != 0) = true := by simpa using hz1
      clear h hz1 HI
      go_wp2
      refine bodyPost_ret (results_ct rfl _ _ (w.heap.size + 1 + 1) 24 #[.slice none 0 0, .int .i64 0] (0, 0) _ rfl (blk_put (blk_put TR.out 0 _ rfl) 1 _ rfl) Try.underlying24 rfl (by kernel_rfl)) rfl ?_
      exact ⟨_, rfl, Kd.R_nil _ _ _ _ _, (HB2.out.setCell (p := ⟨w.heap.size + 1 + 1, 0, none⟩) (by show w.heap.size ≤ w.heap.size + 1 + 1; omega) _).setCell (p := ⟨w.heap.size + 1 + 1, 1, none⟩) (by show w.heap.size ≤ w.heap.size + 1 + 1; omega) _⟩
  · have h := HH.out
    rw [if_neg hz] at h
    have e := Option.some.inj h
    simp only [Prod.mk.injEq] at e
    obtain ⟨rfl, rfl, rfl⟩ := e
    have q0 : (e0 != 0) = true := by simpa using hz
    have HZ := Aside0.mk hz
    clear h hz HH
    go_enter Try.func30, Try.ntmps30
    go_wp2_with fail
    refine (pair_bad k A0_0 c0_0 l0_0 a0_1 A1_0 c1_0 l1_0 a1_1 e0 _ (HR0.out _ HB0.out).1 hc0.out (HR0.out _ HB0.out).2 hc1.out H0.out HZ.out).mono ?_
    rintro e w1 ⟨rfl, hb⟩
    obtain ⟨B1, _, _, tr, hlt⟩ := args_begin3 w _ _ _ hb
    have HB1 := Aside0.mk B1
    have TR1 := Aside0.mk tr
    clear hb B1 tr hlt
    go_upto_region 2 with (fail)
    refine name_world ?_
    intro W hW
    have b2 := (two_begin w1 _ _ hW.out).1
    have HB2 := Aside0.mk (below_then HB1.out HB1.out.size b2)
    have tr := blk_below TR1.out b2
    have TR := Aside0.mk tr
    have p0 := (blk_cell tr 0).trans rfl
    have p1 := (blk_cell tr 1).trans rfl
    have p2 := blk_frozen tr 0
    have p3 := blk_frozen tr 1
    clear hW b2 tr TR1
    go_wp2
    refine bodyPost_ret (results_ct rfl _ _ (w.heap.size + 1 + 1) 24 #[.slice none 0 0, .int .i64 0] (0, 0) _ rfl (blk_put (blk_put TR.out 0 _ rfl) 1 _ rfl) Try.underlying24 rfl (by kernel_rfl)) rfl ?_
    exact ⟨_, rfl, Kd.R_nil _ _ _ _ _, (HB2.out.setCell (p := ⟨w.heap.size + 1 + 1, 0, none⟩) (by show w.heap.size ≤ w.heap.size + 1 + 1; omega) _).setCell (p := ⟨w.heap.size + 1 + 1, 1, none⟩) (by show w.heap.size ≤ w.heap.size + 1 + 1; omega) _⟩
end Go.Proofs.Ytanlonngekgibaa.Pr

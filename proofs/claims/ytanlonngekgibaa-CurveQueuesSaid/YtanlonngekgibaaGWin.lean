/- curve.windows. -/
import Derived.Test.YtanlonngekgibaaGSums
import Derived.Test.YtanlonngekgibaaGMin
import Derived.Test.YtanlonngekgibaaF41
import Derived.IntWalk
namespace Go.Proofs.Ytanlonngekgibaa.Pr
open Go.RowKit Go.Proofs.YtanlonngekgibaaW.PrintWords Go.Proofs.YtanlonngekgibaaW.PrintLast Go.Proofs.YtanlonngekgibaaW.PrintMore
set_option linter.unusedVariables false
set_option linter.unusedSimpArgs false
attribute [local go_sem] max2_int min2_int max_two min_two max_three min_three max_four min_four

theorem cell_al {W : World} (o : Obj) (a : Addr) {v : Value} (ha : a.block < W.heap.size) (h : W.cell? a = some v) : (W.alloc o).cell? a = some v := pw_cell_below (below_alloc (Below.refl _ _) o) h
/-- The blocks that the sums do not lie in. -/
@[reducible] def okS (b : Nat) (k : Nat) : Prop := k ≠ b ∧ k ≠ b + 1 ∧ k ≠ b + 2 ∧ k ≠ b + 4
/-- What holds when i elements have been added. -/
structure WI (w : World) (A : Option Addr) (c : Nat) (l : List Int) (slope : Int) (i : Nat) (u : Value) (W : World) : Prop where
  b : Below w.heap.size w W
  sz : w.heap.size + 5 ≤ W.heap.size
  hl : W.heap[w.heap.size]? = some (.cells #[.slice A l.length c] 22 (0, 0))
  hk : W.heap[w.heap.size + 1]? = some (.cells #[.int .i64 slope] 3 (0, 0))
  hr : W.heap[w.heap.size + 2]? = some (.cells #[.slice none 0 0, .int .i64 0] 24 (0, 0))
  hs : W.heap[w.heap.size + 4]? = some (.cells #[u] 22 (0, 0))
  r : (Kd.int .i64).R 3 W w.heap.size (okS w.heap.size) u (sumsOf (l.take i))

theorem WI.start (w : World) (A : Option Addr) (c : Nat) (l : List Int) (slope : Int) : WI w A c l slope 0 (.slice (some ⟨w.heap.size + 1 + 1 + 1, 0, none⟩) 1 1)
    (((((w.alloc (.cells #[.slice A l.length c] 22)).alloc (.cells #[.int .i64 slope] 3)).alloc (.cells #[.slice none 0 0, .int .i64 0] 24)).alloc (.cells #[.int .i64 0] 3)).alloc (.cells #[.slice (some ⟨w.heap.size + 1 + 1 + 1, 0, none⟩) 1 1] 22)) := by
  have e0 := heap_alloc_new w (.cells #[.slice A l.length c] 22)
  have e1 := heap_alloc_new (w.alloc (.cells #[.slice A l.length c] 22)) (.cells #[.int .i64 slope] 3)
  have e2 := heap_alloc_new ((w.alloc (.cells #[.slice A l.length c] 22)).alloc (.cells #[.int .i64 slope] 3)) (.cells #[.slice none 0 0, .int .i64 0] 24)
  have e4 := heap_alloc_new ((((w.alloc (.cells #[.slice A l.length c] 22)).alloc (.cells #[.int .i64 slope] 3)).alloc (.cells #[.slice none 0 0, .int .i64 0] 24)).alloc (.cells #[.int .i64 0] 3)) (.cells #[.slice (some ⟨w.heap.size + 1 + 1 + 1, 0, none⟩) 1 1] 22)
  simp only [World.size_alloc] at e1 e2 e4
  refine ⟨below_alloc (below_alloc (below_alloc (below_alloc (below_alloc (Below.refl _ _) _) _) _) _) _, by simp, blk_alloc (blk_alloc (blk_alloc (blk_alloc e0 _) _) _) _, blk_alloc (blk_alloc (blk_alloc e1 _) _) _, blk_alloc (blk_alloc e2 _) _, e4, ?_⟩
  have h := own_lit ((((w.alloc (.cells #[.slice A l.length c] 22)).alloc (.cells #[.int .i64 slope] 3)).alloc (.cells #[.slice none 0 0, .int .i64 0] 24))) w.heap.size 3 .i64 [0] (by simp; omega) (by simp)
  simp only [World.size_alloc] at h
  have h2 := Kd.R_of_own (h1 := fun _ => rfl) (xs := [(0 : Int)]) (ok := okS w.heap.size) h (fun k hk => by simp [Value.ownBlock] at hk; unfold okS; omega)
  exact Kd.R_below h2 (below_alloc (Below.refl _ _) _)
theorem WI.below {w W W1 : World} {A : Option Addr} {c : Nat} {l : List Int} {slope : Int} {i : Nat} {u : Value} (h : WI w A c l slope i u W) (hb : Below W.heap.size W W1) : WI w A c l slope i u W1 :=
  ⟨below_then h.b h.b.size hb, Nat.le_trans h.sz hb.size, blk_below h.hl hb, blk_below h.hk hb, blk_below h.hr hb, blk_below h.hs hb, Kd.R_below h.r hb⟩
theorem WI.step (w : World) (A : Option Addr) (c : Nat) (l : List Int) (slope : Int) (i : Nat) (u v : Value) (W W1 : World) (row : Option Nat) (h : WI w A c l slope i u W) (hg : W.grownBy W1 row) (hn : ∀ k, some k = row → okS w.heap.size k)
    (hb : Below w.heap.size w W1) (hR : (Kd.int .i64).R 3 W1 w.heap.size (okS w.heap.size) v (sumsOf (l.take (i + 1)))) : WI w A c l slope (i + 1) v (W1.setCell ⟨w.heap.size + 4, 0, none⟩ v) := by
  have n0 : some w.heap.size ≠ row := fun e => (hn _ e).1 rfl
  have n1 : some (w.heap.size + 1) ≠ row := fun e => (hn _ e).2.1 rfl
  have n2 : some (w.heap.size + 2) ≠ row := fun e => (hn _ e).2.2.1 rfl
  have n4 : some (w.heap.size + 4) ≠ row := fun e => (hn _ e).2.2.2 rfl
  have sz := Nat.le_trans h.sz hg.size
  refine ⟨hb.setCell (p := ⟨w.heap.size + 4, 0, none⟩) (by simp) _, by simp [World.setCell]; omega, blk_far (blk_grown h.hl hg n0) (by simp) _, blk_far (blk_grown h.hk hg n1) (by simp) _, blk_far (blk_grown h.hr hg n2) (by simp) _, blk_put (blk_grown h.hs hg n4) 0 _ rfl, ?_⟩
  exact Kd.R_far (p := ⟨w.heap.size + 4, 0, none⟩) hR (fun k hk => hk.2.2.2) _
theorem time_yes {x : Int} (h : TimeOk x) : curve_time.f x = some true := by unfold curve_time.f; rw [if_pos h.1, decide_eq_true h.2]
theorem time_no {x : Int} (h : ¬ TimeOk x) : curve_time.f x = some false := by
  unfold curve_time.f
  by_cases h0 : x ≥ 0
  · rw [if_pos h0, decide_eq_false (fun e => h ⟨h0, e⟩)]
  · rw [if_neg h0]

/-- What holds when some values have been laid. -/
structure WO (wr : World) (bo : Nat) (slope : Int) (xs : List Int) (u : Value) (W : World) : Prop where
  b : Below wr.heap.size wr W
  ho : W.heap[bo]? = some (.cells #[u, .int .i64 slope] 24 (0, 0))
  r : (Kd.int .i64).R 3 W wr.heap.size (fun k => k ≠ bo) u xs
theorem WO.below {wr W W1 : World} {bo : Nat} {slope : Int} {xs : List Int} {u : Value} (h : WO wr bo slope xs u W) (hb : Below W.heap.size W W1) : WO wr bo slope xs u W1 :=
  ⟨below_then h.b h.b.size hb, blk_below h.ho hb, Kd.R_below h.r hb⟩
theorem WO.belowN {wr W W1 : World} {bo : Nat} {slope : Int} {xs : List Int} {u : Value} (h : WO wr bo slope xs u W) {n : Nat} (hb : Below (W.drewN n).heap.size (W.drewN n) W1) : WO wr bo slope xs u W1 :=
  h.below (Below.trans (pw_below_drewN (Below.refl _ _) n) hb)
theorem up_runs (bs bl bk : Nat) (sA : Option Addr) (sc : Nat) (sums : List Int) (A : Option Addr) (c n : Nat) (slope t : Int) (w : World) (hW : Win w bs bl bk sA sc sums A c n slope) (ht : 0 ≤ t) :
    Calls Try.prog 63 (#[] ++ #[.int .i64 t] ++ #[.pointer (some ⟨bs, 0, none⟩), .pointer (some ⟨bl, 0, none⟩), .pointer (some ⟨bk, 0, none⟩)]) w fun e w' => e = .returned (.int .i64 (upF sums n slope t)) ∧ Below w.heap.size w w' := up_run bs bl bk sA sc sums A c n slope t w hW ht
set_option maxHeartbeats 4000000 in
set_option maxRecDepth 100000 in
theorem windows_run (bet : Int → Int → Int) (g : Nat) (hg : FnOk Try.prog g) (hb : ∀ (x y : Int) (W : World), Calls Try.prog g (#[] ++ #[.int .i64 x, .int .i64 y] ++ #[]) W fun e w' => e = .returned (.int .i64 (bet x y)) ∧ Below W.heap.size W w')
    (A : Option Addr) (c : Nat) (l : List Int) (slope : Int) (w : World) (hr : Kd.C (Kd.int .i64) w A l.length l) (hc : l.length ≤ c) :
    Calls Try.prog 35 #[.slice A l.length c, .int .i64 slope, .func (.func g) #[] #[]] w fun e w' => ∃ v0_ : Value, e = .returned (.tuple #[.agg #[v0_, .int .i64 (winF bet l slope).2.1], .int .i64 (winF bet l slope).2.2]) ∧ Kd.R (Kd.int .i64) 3 w' w.heap.size (fun _ => True) v0_ (winF bet l slope).1 ∧ Below w.heap.size w w' := by
  have hmf : ∀ (fn : Fn) (first cap : Array Value) (w : World), (Instr.makeFunc fn first cap).run Try.prog w = .ok (.func fn first cap) w := fun _ _ _ _ => rfl
  have HR := Aside0.mk hr
  have HC := Aside0.mk hc
  have HG := Aside0.mk hg
  have HB := Aside0.mk hb
  have hmx : l.length ≤ 9223372036854775807 := Kd.C_max hr
  clear hr hc hg hb
  by_cases hlen : 4096 ≤ l.length
  · have e : winF bet l slope = ([], 0, 6) := if_pos hlen
    rw [e]
    have q0 : decide ((4096 : Int) ≤ (l.length : Int)) = true := decide_eq_true (by omega)
    have q1 : decide ((l.length : Int) ≥ (4096 : Int)) = true := decide_eq_true (by omega)
    clear e
    go_enter Try.func35, Try.ntmps35
    go_wp2
    refine bodyPost_ret (results_ct rfl _ _ (w.heap.size + 1 + 1) 24 #[.slice none 0 0, .int .i64 0] (0, 0) _ rfl ?bk Try.underlying24 rfl (by kernel_rfl)) rfl ?_
    case bk =>
      have e := heap_alloc_new ((w.alloc (.cells #[.slice A l.length c] 22)).alloc (.cells #[.int .i64 slope] 3)) (.cells #[.slice none 0 0, .int .i64 0] 24)
      simp only [World.size_alloc] at e
      exact e
    exact ⟨_, rfl, Kd.R_nil _ _ _ _ _, by repeat (first | exact Below.refl _ _ | apply below_alloc | apply pw_below_drewN | apply below_drew1)⟩
  · have q0 : decide ((4096 : Int) ≤ (l.length : Int)) = false := decide_eq_false (by omega)
    have q1 : decide ((l.length : Int) ≥ (4096 : Int)) = false := decide_eq_false (by omega)
    go_enter Try.func35, Try.ntmps35
    go_wp2
    go_loopw [23] (fun v wr => ∃ (i : Nat) (u : Value), i ≤ l.length ∧ v = .int .i64 i ∧ (∀ x ∈ l.take i, TimeOk x) ∧ Aside0 (WI w A c l slope i u wr)) (fun v _ => l.length - (intOf v).toNat)
    case atStart => exact ⟨0, _, Nat.zero_le _, rfl, by simp, ⟨WI.start w A c l slope⟩⟩
    case round =>
      obtain ⟨i, u, hi, rfl, hT, hN⟩ := hrel
      by_cases hlt : i < l.length
      · have hlen2 : (sumsOf (l.take i)).length = i + 1 := by rw [sumsOf_len, List.length_take]; omega
        obtain ⟨b, cap, hu, hb1, hb2, _⟩ := Kd.R_form hN.out.r (by omega)
        rw [hlen2] at hu
        subst hu
        obtain ⟨ad, rfl, hcell⟩ := Kd.at_int (Kd.C_below HR.out hN.out.b) (i : Int) (by omega) (by omega)
        rw [Int.toNat_natCast] at hcell
        have HNO := Aside0.mk hN.out
        have p1 : ((i : Int) < (l.length : Int)) = True := eq_true (by omega)
        have p2 : (i < l.length) = True := eq_true hlt
        have p3 : decide (i < l.length) = true := decide_eq_true hlt
        have p4 : decide ((i : Int) < l.length) = true := decide_eq_true (by omega)
        obtain ⟨x, hx2⟩ : ∃ x, Aside0 (rd l (i : Int) = x) := ⟨_, ⟨rfl⟩⟩
        have hmem := Aside0.mk (rd_mem l (i : Int) (by omega) (by omega))
        rw [hx2.out] at hcell hmem
        have HT := Aside0.mk hT
        have HLEN := Aside0.mk hlen
        have HLT := Aside0.mk hlt
        have HL2 := Aside0.mk hlen2
        have hc00 : wr.cell? ⟨w.heap.size, 0, none⟩ = some (.slice (some ad) l.length c) := (blk_cell hN.out.hl 0).trans rfl
        clear hT hlen hlt hlen2 hb1 hb2 q0 q1 hN
        by_cases hx : TimeOk x
        · have HX := Aside0.mk hx
          clear hx
          go_wp2_with (first | ((with_reducible refine gate_callee (f := 41) rfl ?_); refine goesL_ (some 28) rfl rfl Try.func41 (by kernel_rfl) rfl #[.int .i64 x] rfl (by (try simp only [List.map_toArray, List.map_cons, List.map_nil]); first | done | rfl) ?_; (with_reducible refine (curve_time.calls x true _ (time_yes HX.out)).mono ?_); rintro e w' ⟨rfl, ⟨nd, rfl⟩⟩; refine ⟨_, rfl, ?_⟩))
          refine name_world ?_
          intro W0 hW0
          have HN1 := Aside0.mk (show WI w (some ad) c l slope i (.slice (some ⟨b, 0, none⟩) (i + 1) cap) W0 from by rw [← hW0.out]; exact HNO.out.below (pw_below_drewN (Below.refl _ _) _))
          clear hW0 hcell hc00
          have hy0 : W0.cell? ⟨b, i, none⟩ = some (.int .i64 (l.take i).sum) := by
            have h := Kd.R_celln (0 : Int) HN1.out.r (i : Int) (by omega) (by have := HL2.out; omega)
            rw [Int.toNat_natCast] at h
            rw [h.1]
            have e : rdOf 0 (sumsOf (l.take i)) (i : Int) = rd (sumsOf (l.take i)) (i : Int) := rfl
            rw [e, sumsOf_rd _ _ (by rw [List.length_take]; have := HLT.out; omega), List.take_take, Nat.min_self]
          have hc0 : W0.cell? ⟨w.heap.size + 4, 0, none⟩ = some (.slice (some ⟨b, 0, none⟩) (i + 1) cap) := (blk_cell HN1.out.hs 0).trans rfl
          have HNE := Aside0.mk (show ¬ w.heap.size + 4 = b from fun e => (HN1.out.r.1 b (by simp [Value.ownBlock])).2.2.2 e.symm)
          have HL8 := Aside0.mk (show ((sumsOf (l.take i)).length + 1) * 8 ≤ 140737488355328 from by rw [HL2.out]; have := HLT.out; have := HLEN.out; omega)
          have HS8 := Aside0.mk (show w.heap.size ≤ W0.heap.size from by have := HN1.out.sz; omega)
          have HF8 := Aside0.mk (show ∀ k, W0.heap.size ≤ k → okS w.heap.size k from fun k hk => by have := HN1.out.sz; unfold okS; omega)
          have hpre := sumT (l.take i) HT.out
          have htl : (l.take i).length ≤ 4096 := by rw [List.length_take]; have := HLEN.out; omega
          obtain ⟨y, hy⟩ : ∃ y, Aside0 ((l.take i).sum = y) := ⟨_, ⟨rfl⟩⟩
          rw [hy.out] at hy0 hpre
          have hc1 := hy0
          have e1 : IntKind.i64.wrap (y + x) = y + x := IntWalk.i64_in _ (by have := HX.out; unfold TimeOk at this; omega)
          have e2 : wrap64 (y + x) = y + x := by have := HX.out; unfold TimeOk at this; unfold wrap64; omega
          have hsn : sumsOf (l.take (i + 1)) = sumsOf (l.take i) ++ [y + x] := by rw [take_rd l i HLT.out, sumsOf_snoc, hy.out, hx2.out]
          have HSN := Aside0.mk hsn
          have hl2 : i ≤ 4096 := by have := HLT.out; have := HLEN.out; omega
          obtain ⟨n, hn⟩ : ∃ n, n = i := ⟨_, rfl⟩
          clear hpre htl hsn hy0
          subst hn
          have e0 : wrap64 (n : Int) = n := by unfold wrap64; omega
          have e3 : ((n : Int) < (n : Int) + 1) = True := eq_true (by omega)
          go_wp2_with fail
          refine start_ (n := 12) (S := fun w' => w'.cell? ⟨w.heap.size + 4, 0, none⟩ = some (.slice (some ⟨b, 0, none⟩) (n + 1) cap) ∧ w'.cell? ⟨b, n, none⟩ = some (.int .i64 y)) (ds := [10, 11]) #[false, false, false, false, false, false, false, false, false, false, false, false] (by kernel_rfl) rfl rfl ⟨hc0, hc1⟩ (fun hHeld => ?_)
          refine pure_ (i := 7) (N := some 38) (v := ?_) (a' := ?_) #[false, false, false, false, false, false, false, true, false, false, false, false] rfl rfl (by kernel_rfl) (fun _ _ _ h => h) (Or.inl ⟨by rfl, ?_⟩) ?_ ?_
          rotate_left
          · intro w'
            go_simp
            with_reducible rfl
          rotate_left
          · simp only [Act.put, List.setIfInBounds_toArray, List.set_cons_zero, List.set_cons_succ, i64_w, i32_w]
            rfl
          refine take_ (i := 0) (N := some 31) (v := ?_) (a' := ?_) #[true, false, false, false, false, false, false, true, false, false, false, false] rfl rfl (by kernel_rfl) (fun _ _ _ h => h) (Or.inl ⟨by rfl, ?_⟩) hHeld ?_ ?_
          rotate_left
          · rintro w' ⟨s0, s1⟩
            go_simp
            with_reducible rfl
          rotate_left
          · simp only [Act.put, List.setIfInBounds_toArray, List.set_cons_zero, List.set_cons_succ, i64_w, i32_w]
            rfl
          refine take_ (i := 1) (N := some 32) (v := ?_) (a' := ?_) #[true, true, false, false, false, false, false, true, false, false, false, false] rfl rfl (by kernel_rfl) (fun _ _ _ h => h) (Or.inl ⟨by rfl, ?_⟩) hHeld ?_ ?_
          rotate_left
          · rintro w' ⟨s0, s1⟩
            go_simp
            with_reducible rfl
          rotate_left
          · simp only [Act.put, List.setIfInBounds_toArray, List.set_cons_zero, List.set_cons_succ, i64_w, i32_w]
            rfl
          refine take_ (i := 2) (N := some 33) (v := ?_) (a' := ?_) #[true, true, true, false, false, false, false, true, false, false, false, false] rfl rfl (by kernel_rfl) (fun _ _ _ h => h) (Or.inl ⟨by rfl, ?_⟩) hHeld ?_ ?_
          rotate_left
          · rintro w' ⟨s0, s1⟩
            go_simp
            with_reducible rfl
          rotate_left
          · simp only [Act.put, List.setIfInBounds_toArray, List.set_cons_zero, List.set_cons_succ, i64_w, i32_w]
            rfl
          refine pure_ (i := 3) (N := some 34) (v := ?_) (a' := ?_) #[true, true, true, true, false, false, false, true, false, false, false, false] rfl rfl (by kernel_rfl) (fun _ _ _ h => h) (Or.inl ⟨by rfl, ?_⟩) ?_ ?_
          rotate_left
          · intro w'
            go_simp
            with_reducible rfl
          rotate_left
          · simp only [Act.put, List.setIfInBounds_toArray, List.set_cons_zero, List.set_cons_succ, i64_w, i32_w]
            rfl
          refine pure_ (i := 4) (N := some 35) (v := ?_) (a' := ?_) #[true, true, true, true, true, false, false, true, false, false, false, false] rfl rfl (by kernel_rfl) (fun _ _ _ h => h) (Or.inl ⟨by rfl, ?_⟩) ?_ ?_
          rotate_left
          · intro w'
            go_simp
            with_reducible rfl
          rotate_left
          · simp only [Act.put, List.setIfInBounds_toArray, List.set_cons_zero, List.set_cons_succ, i64_w, i32_w]
            rfl
          refine pure_ (i := 5) (N := some 36) (v := ?_) (a' := ?_) #[true, true, true, true, true, true, false, true, false, false, false, false] rfl rfl (by kernel_rfl) (fun _ _ _ h => h) (Or.inl ⟨by rfl, ?_⟩) ?_ ?_
          rotate_left
          · intro w'
            go_simp
            with_reducible rfl
          rotate_left
          · simp only [Act.put, List.setIfInBounds_toArray, List.set_cons_zero, List.set_cons_succ, i64_w, i32_w]
            rfl
          refine take_ (i := 6) (N := some 37) (v := ?_) (a' := ?_) #[true, true, true, true, true, true, true, true, false, false, false, false] rfl rfl (by kernel_rfl) (fun _ _ _ h => h) (Or.inl ⟨by rfl, ?_⟩) hHeld ?_ ?_
          rotate_left
          · rintro w' ⟨s0, s1⟩
            go_simp
            with_reducible rfl
          rotate_left
          · simp only [Act.put, List.setIfInBounds_toArray, List.set_cons_zero, List.set_cons_succ, i64_w, i32_w]
            rfl
          refine pure_ (i := 8) (N := some 39) (v := ?_) (a' := ?_) #[true, true, true, true, true, true, true, true, true, false, false, false] rfl rfl (by kernel_rfl) (fun _ _ _ h => h) (Or.inl ⟨by rfl, ?_⟩) ?_ ?_
          rotate_left
          · intro w'
            go_simp
            with_reducible rfl
          rotate_left
          · simp only [Act.put, List.setIfInBounds_toArray, List.set_cons_zero, List.set_cons_succ, i64_w, i32_w]
            rfl
          refine one_ (i := 9) (N := some 40) #[true, true, true, true, true, true, true, true, true, true, false, false] rfl rfl (by kernel_rfl) (by decide) (fun K hK => ?_)
          refine value_ (w1 := ?_) (v := ?_) (by rfl) rfl ?_ ?_
          rotate_left 2
          · go_simp
            constructor
            · rfl
            · rfl
          refine hK.out _ _ ⟨cell_al _ _ (World.block_lt_of_cell? _ _ hHeld.1) hHeld.1, cell_al _ _ (World.block_lt_of_cell? _ _ hHeld.2) hHeld.2⟩ (fun hHeld => ?_)
          clear hK K
          refine norm_ (a' := ?_) ?_ ?_
          rotate_left
          · show Act.put _ (some 40) _ = _
            simp only [Act.put, List.setIfInBounds_toArray, List.set_cons_zero, List.set_cons_succ, i64_w, i32_w]
            rfl
          refine last_ (i := 10) (N := some 41) #[true, true, true, true, true, true, true, true, true, true, true, false] rfl rfl (by kernel_rfl) (by decide) (fun K hK => ?_)
          refine Kd.R_append_step (Kd.int .i64) (w0 := w) (W := W0.drew) w.heap.size (by rfl) (.tmp 31) (.tmp 40) 22 3 (.int .i64 0) 8 rfl Try.underlying22 info3 rfl (by decide) (by omega) (.slice (some ⟨b, 0, none⟩) (n + 1) cap) _ (y + x) [.int .i64 (y + x)] (okS w.heap.size) (fun _ => False) rfl rfl rfl (fun _ h => h.elim) (fun k hk => HF8.out k hk) (Kd.R_drew HN1.out.r) (below_drew HN1.out.b) HS8.out HL8.out ?_
          intro v1 w1 ho hb hg hat
          obtain ⟨A1, k1, rfl⟩ := Kd.R_slice ho
          have HO := Aside0.mk ho
          have HB2 := Aside0.mk hb
          have HGR := Aside0.mk hg
          have hblk1 := blk_grown (blk_drew HN1.out.hs) hg (by simp [Value.ownBlock]; exact HNE.out)
          have hs0 : w1.cell? ⟨w.heap.size + 4, 0, none⟩ = some (.slice (some ⟨b, 0, none⟩) (n + 1) cap) := (blk_cell hblk1 0).trans rfl
          have hs1 : w1.frozen? ⟨w.heap.size + 4, 0, none⟩ = false := blk_frozen hblk1 0
          have HBK1 := Aside0.mk hblk1
          clear ho hb hg hat hblk1
          refine hK.out _ _ ?_
          clear hK K
          refine norm_ (a' := ?_) ?_ ?_
          rotate_left
          · show Act.put _ (some 41) _ = _
            simp only [Act.put, List.setIfInBounds_toArray, List.set_cons_zero, List.set_cons_succ, i64_w, i32_w]
            rfl
          refine last_ (i := 11) (N := none) #[true, true, true, true, true, true, true, true, true, true, true, true] rfl rfl (by kernel_rfl) (by decide) (fun K hK => ?_)
          refine skip_ (w1 := ?_) (by rfl) rfl ?_ ?_
          rotate_left
          · go_simp
            rfl
          refine hK.out _ _ ?_
          clear hK K
          refine done_ (by kernel_rfl) ?_

          clear e0 e1 e2 e3
          have hst := WI.step w (some ad) c l slope n (.slice (some ⟨b, 0, none⟩) (n + 1) cap) (.slice A1 (sumsOf (l.take n) ++ [y + x]).length k1) W0.drew w1 (some b) (HN1.out.below (below_drew (Below.refl _ _))) HGR.out (fun k hk => by obtain rfl := Option.some.inj hk; exact HN1.out.r.1 k (by simp [Value.ownBlock])) HB2.out (by rw [HSN.out]; exact HO.out)
          have HST := Aside0.mk hst
          have hsl : (sumsOf (l.take n) ++ [y + x]).length = (sumsOf (l.take n)).length + 1 := by simp
          rw [hsl] at HST
          have HT2 := Aside0.mk (show ∀ z ∈ l.take (n + 1), TimeOk z from by
            intro z hz
            rw [take_rd l n HLT.out, List.mem_append] at hz
            rcases hz with hz | hz
            · exact HT.out z hz
            · rw [List.mem_singleton, hx2.out] at hz
              rw [hz]; exact HX.out)
          clear hst hsl
          go_wp2
          go_roundw
          case rel => exact ⟨n + 1, _, HLT.out, by go_num, HT2.out, HST⟩
          case measure => have := HLT.out; simp [intOf]; omega
        · have HX := Aside0.mk hx
          have e : winF bet l slope = ([], 0, 2) := by unfold winF; rw [if_neg HLEN.out, if_pos ⟨x, hmem.out, HX.out⟩]
          have HE := Aside0.mk e
          clear hx e
          have p0 := (blk_cell HNO.out.hr 0).trans rfl
          have p5 := (blk_cell HNO.out.hr 1).trans rfl
          have p6 := blk_frozen HNO.out.hr 0
          have p7 := blk_frozen HNO.out.hr 1
          go_wp2_with (first | ((with_reducible refine gate_callee (f := 41) rfl ?_); refine goesL_ (some 28) rfl rfl Try.func41 (by kernel_rfl) rfl #[.int .i64 x] rfl (by (try simp only [List.map_toArray, List.map_cons, List.map_nil]); first | done | rfl) ?_; (with_reducible refine (curve_time.calls x false _ (time_no HX.out)).mono ?_); rintro e w' ⟨rfl, ⟨nd, rfl⟩⟩; refine ⟨_, rfl, ?_⟩))
          refine bodyPost_ret (results_ct rfl _ _ (w.heap.size + 1 + 1) 24 #[.slice none 0 0, .int .i64 0] (0, 0) _ rfl (blk_put (blk_put (blk_drewN HNO.out.hr _) 0 _ rfl) 1 _ rfl) Try.underlying24 rfl (by kernel_rfl)) rfl ?_
          rw [HE.out]
          exact ⟨_, rfl, Kd.R_nil _ _ _ _ _, ((pw_below_drewN HNO.out.b _).setCell (p := ⟨w.heap.size + 1 + 1, 0, none⟩) (by show w.heap.size ≤ w.heap.size + 1 + 1; omega) _).setCell (p := ⟨w.heap.size + 1 + 1, 1, none⟩) (by show w.heap.size ≤ w.heap.size + 1 + 1; omega) _⟩
      · obtain rfl : i = l.length := by omega
        rw [List.take_length] at hT
        have hN1 := hN.out
        have hR0 := hN1.r
        rw [List.take_length] at hR0
        have hlen2 : (sumsOf l).length = l.length + 1 := sumsOf_len l
        obtain ⟨b, cap, hu, hb1, hb2, _⟩ := Kd.R_form hR0 (by omega)
        rw [hlen2] at hu
        subst hu
        obtain ⟨A2, c2, hA2, _, hr2⟩ := Kd.R_reads hR0
        have hA3 : A2 = some ⟨b, 0, none⟩ ∧ cap = c2 := by injection hA2 with h1 h2 h3; exact ⟨h1.symm, h3⟩
        obtain ⟨rfl, rfl⟩ := hA3
        have hcs : wr.cell? ⟨b, l.length, none⟩ = some (.int .i64 l.sum) := by
          have h := Kd.R_celln (0 : Int) hR0 (l.length : Int) (by omega) (by omega)
          rw [Int.toNat_natCast] at h
          rw [h.1]
          have e : rdOf 0 (sumsOf l) (l.length : Int) = rd (sumsOf l) (l.length : Int) := rfl
          rw [e, sumsOf_rd _ _ (Nat.le_refl _), List.take_length]
        have HNO := Aside0.mk hN1
        have HR2 := Aside0.mk hr2
        have HT := Aside0.mk hT
        have HLEN := Aside0.mk hlen
        have hnot : ¬ ∃ x ∈ l, ¬ TimeOk x := fun ⟨x, hx, h⟩ => h (hT x hx)
        have HNOT := Aside0.mk hnot
        have p3 : decide (l.length < l.length) = false := decide_eq_false (by omega)
        have hcl : wr.cell? ⟨w.heap.size, 0, none⟩ = some (.slice A l.length c) := (blk_cell hN1.hl 0).trans rfl
        have hck : wr.cell? ⟨w.heap.size + 1, 0, none⟩ = some (.int .i64 slope) := (blk_cell hN1.hk 0).trans rfl
        have hcb : wr.cell? ⟨w.heap.size + 4, 0, none⟩ = some (.slice (some ⟨b, 0, none⟩) (l.length + 1) cap) := (blk_cell hN1.hs 0).trans rfl
        have z0 : (0 ≤ (l.length : Int)) = True := eq_true (by omega)
        have z1 : ((l.length : Int) < (l.length : Int) + 1) = True := eq_true (by omega)
        clear hT hlen hlen2 hb1 hb2 q0 q1 hN hN1 hR0 hr2 hA2 hi hlt hnot
        by_cases hs : TimeOk l.sum
        · by_cases hk : TimeOk slope
          · have HS := Aside0.mk hs
            have HK := Aside0.mk hk
            have e5 : IntKind.i64.wrap ((l.length : Int) + 1) = (l.length : Int) + 1 := IntWalk.i64_in _ (by have := HLEN.out; omega)
            have e6 : wrap64 ((l.length : Int) + 1) = (l.length : Int) + 1 := by have := HLEN.out; unfold wrap64; omega
            clear hs hk
            go_wp2_with (first | ((with_reducible refine gate_callee (f := 41) rfl ?_); (try (refine gate_guard (by rfl) ?_; dsimp only)); refine goesL_ (some 48) rfl rfl Try.func41 (by kernel_rfl) rfl #[.int .i64 l.sum] rfl (by (try simp only [List.map_toArray, List.map_cons, List.map_nil]); first | done | rfl) ?_; (with_reducible refine (curve_time.calls l.sum true _ (time_yes HS.out)).mono ?_); rintro e w' ⟨rfl, ⟨nd, rfl⟩⟩; refine ⟨_, rfl, ?_⟩) | ((with_reducible refine gate_callee (f := 41) rfl ?_); (try (refine gate_guard (by rfl) ?_; dsimp only)); refine goesL_ (some 52) rfl rfl Try.func41 (by kernel_rfl) rfl #[.int .i64 slope] rfl (by (try simp only [List.map_toArray, List.map_cons, List.map_nil]); first | done | rfl) ?_; (with_reducible refine (curve_time.calls slope true _ (time_yes HK.out)).mono ?_); rintro e w' ⟨rfl, ⟨nd, rfl⟩⟩; refine ⟨_, rfl, ?_⟩) | ((with_reducible refine gate_dst (N := 12) rfl ?_); refine box_event ?hg (N := 12) ?hd (cs := #[.slice none 0 0, .int .i64 0]) (t := 24) ?hr ?_; (case hd => rfl); (case hg => rfl); (case hr => first | (go_simp; done) | (go_simp; rfl)); intro bo hbo W1 hbox hbl; have HBO := Aside0.mk hbox; have HN1 := Aside0.mk ((HNO.out.below (pw_below_drewN (Below.refl _ _) _)).below hbl); have HGE := Aside0.mk (show w.heap.size + 5 ≤ bo from by rw [hbo]; exact HNO.out.sz); have HBL := Aside0.mk (Below.trans (pw_below_drewN (Below.refl wr.heap.size wr) _) hbl); have HBE := Aside0.mk (show bo = wr.heap.size from hbo); clear hcs hcl hck hcb hbo hbl; have y0 := (blk_cell hbox 0).trans rfl; have y1 := (blk_cell hbox 1).trans rfl; have y2 := blk_frozen hbox 0; have y3 := blk_frozen hbox 1; clear hbox; have hcl : W1.cell? ⟨w.heap.size, 0, none⟩ = some (.slice A l.length c) := (blk_cell HN1.out.hl 0).trans rfl; have n1 : ¬ bo = w.heap.size := (by have := HGE.out; omega); have n2 : ¬ w.heap.size = bo := (by have := HGE.out; omega)))
            obtain ⟨we, rfl⟩ : ∃ we, we = wr := ⟨_, rfl⟩
            have HWIN : Aside0 (∀ W, Below we.heap.size we W → Win W (w.heap.size + 1 + 1 + 1 + 1) w.heap.size (w.heap.size + 1) (some ⟨b, 0, none⟩) cap (sumsOf l) A c l.length slope) := ⟨fun W hW => Win.below ⟨by rw [sumsOf_len]; exact HNO.out.hs, HNO.out.hl, HNO.out.hk, HR2.out, by rw [sumsOf_len]; omega⟩ hW⟩
            have HO0 : WO we bo slope (bests bet (upF (sumsOf l) l.length slope) l.length 0) (.slice none 0 0) ((W1.setCell ⟨bo, 0, none⟩ (.slice none 0 0)).setCell ⟨bo, 1, none⟩ (.int .i64 slope)) :=
              ⟨(HBL.out.setCell (p := ⟨bo, 0, none⟩) (by show we.heap.size ≤ bo; have := HBE.out; omega) _).setCell (p := ⟨bo, 1, none⟩) (by show we.heap.size ≤ bo; have := HBE.out; omega) _, blk_put (blk_put HBO.out 0 _ rfl) 1 _ rfl, Kd.R_nil _ _ _ _ _⟩
            have HO := Aside0.mk HO0
            clear HO0 y0 y1 y2 y3 hcl n1 n2
            go_loopw [62] (fun v W => ∃ (i : Nat) (u : Value), i ≤ l.length + 1 ∧ v = .int .i64 i ∧ Aside0 (∀ x ∈ bests bet (upF (sumsOf l) l.length slope) l.length i, x ≤ 1073741824) ∧ Aside0 (WO we bo slope (bests bet (upF (sumsOf l) l.length slope) l.length i) u W)) (fun v _ => l.length + 1 - (intOf v).toNat)
            case atStart => exact ⟨0, _, Nat.zero_le _, rfl, ⟨by simp [bests]⟩, HO⟩
            case round =>
              clear HO
              obtain ⟨i, u, hi, rfl, HLE, HO⟩ := hrel
              by_cases hlt : i < l.length + 1
              · have HLT := Aside0.mk hlt
                have q0 : decide (i < l.length + 1) = true := decide_eq_true hlt
                have q1 : decide ((i : Int) < (l.length : Int) + 1) = true := decide_eq_true (by omega)
                clear hlt hi
                go_wp2_with (first | ((with_reducible refine gate_dst (N := 67) rfl ?_); refine goesF_ (some 67) rfl rfl up_ok #[] #[.pointer (some ⟨w.heap.size + 1 + 1 + 1 + 1, 0, none⟩), .pointer (some ⟨w.heap.size, 0, none⟩), .pointer (some ⟨w.heap.size + 1, 0, none⟩)] #[.int .i64 ((i : Int))] rfl rfl (by (try simp only [List.map_toArray, List.map_cons, List.map_nil]); first | done | rfl) ?_; (with_reducible refine (up_runs _ _ _ (some ⟨b, 0, none⟩) cap (sumsOf l) A c l.length slope ((i : Int)) _ (by first | exact HWIN.out _ HO.out.b | exact HWIN.out _ (pw_below_drewN HO.out.b _)) (Int.natCast_nonneg i)).mono ?_); rintro e w' ⟨rfl, hb⟩; refine ⟨_, rfl, ?_⟩; have n0_ := Aside0.mk (by first | exact HO.out.below hb | exact HO.out.belowN hb : WO we bo slope _ _ w'); clear HO hb; have HO := n0_; clear n0_; (try clear hcl); have hcl : w'.cell? ⟨w.heap.size, 0, none⟩ = some (.slice A l.length c) := (blk_cell (HWIN.out _ HO.out.b).hl 0).trans rfl))
                clear hcl
                go_loopw [14, 70] (fun v14 v70 W => ∃ (j : Nat), j ≤ l.length ∧ v70 = .int .i64 j ∧ v14 = .int .i64 (bestTo bet (upF (sumsOf l) l.length slope) (i : Int) j) ∧ Aside0 (WO we bo slope (bests bet (upF (sumsOf l) l.length slope) l.length i) u W)) (fun _ v _ => l.length - (intOf v).toNat)
                case atStart => exact ⟨0, Nat.zero_le _, rfl, rfl, HO⟩
                case round =>
                  clear HO
                  obtain ⟨j, hj, rfl, rfl, HO⟩ := hrel
                  by_cases hjt : j < l.length
                  · have HJT := Aside0.mk hjt
                    have q2 : decide (j < l.length) = true := decide_eq_true hjt
                    have q3 : decide ((j : Int) < (l.length : Int)) = true := decide_eq_true (by omega)
                    have hil : i ≤ 4096 := by have := HLT.out; have := HLEN.out; omega
                    have hjl : j ≤ 4096 := by have := HLEN.out; omega
                    have e7 : IntKind.i64.wrap ((j : Int) + 1) = (j : Int) + 1 := IntWalk.i64_in _ (by omega)
                    have e8 : IntKind.i64.wrap ((j : Int) + 1 + (i : Int)) = (j : Int) + 1 + (i : Int) := IntWalk.i64_in _ (by omega)
                    have e9 : wrap64 ((j : Int) + 1) = (j : Int) + 1 := by unfold wrap64; omega
                    have e10 : wrap64 ((j : Int) + 1 + (i : Int)) = (j : Int) + 1 + (i : Int) := by unfold wrap64; omega
                    obtain ⟨bst, hbst⟩ : ∃ v, bestTo bet (upF (sumsOf l) l.length slope) (i : Int) j = v := ⟨_, rfl⟩
                    rw [hbst]
                    obtain ⟨d, hd⟩ : ∃ d, wrap64 (upF (sumsOf l) l.length slope ((j : Int) + 1 + (i : Int)) - upF (sumsOf l) l.length slope ((j : Int) + 1)) = d := ⟨_, rfl⟩
                    have e11 : IntKind.i64.wrap (upF (sumsOf l) l.length slope ((j : Int) + 1 + (i : Int)) - upF (sumsOf l) l.length slope ((j : Int) + 1)) = d := (i64_w _).trans hd
                    have HS2 := Aside0.mk (show bet bst d = bestTo bet (upF (sumsOf l) l.length slope) (i : Int) (j + 1) from by rw [bestTo_succ, hbst, hd])
                    clear hbst hjt hj
                    go_wp2_with (first | ((with_reducible refine gate_dst (N := 80) rfl ?_); refine goesF_ (some 80) rfl rfl up_ok #[] #[.pointer (some ⟨w.heap.size + 1 + 1 + 1 + 1, 0, none⟩), .pointer (some ⟨w.heap.size, 0, none⟩), .pointer (some ⟨w.heap.size + 1, 0, none⟩)] #[.int .i64 ((j : Int) + 1 + (i : Int))] rfl rfl (by (try simp only [List.map_toArray, List.map_cons, List.map_nil]); first | done | rfl) ?_; (with_reducible refine (up_runs _ _ _ (some ⟨b, 0, none⟩) cap (sumsOf l) A c l.length slope ((j : Int) + 1 + (i : Int)) _ (by first | exact HWIN.out _ HO.out.b | exact HWIN.out _ (pw_below_drewN HO.out.b _)) (Int.add_nonneg (Int.add_nonneg (Int.natCast_nonneg j) (by decide)) (Int.natCast_nonneg i))).mono ?_); rintro e w' ⟨rfl, hb⟩; refine ⟨_, rfl, ?_⟩; have n0_ := Aside0.mk (by first | exact HO.out.below hb | exact HO.out.belowN hb : WO we bo slope _ _ w'); clear HO hb; have HO := n0_; clear n0_) | ((with_reducible refine gate_dst (N := 84) rfl ?_); refine goesF_ (some 84) rfl rfl up_ok #[] #[.pointer (some ⟨w.heap.size + 1 + 1 + 1 + 1, 0, none⟩), .pointer (some ⟨w.heap.size, 0, none⟩), .pointer (some ⟨w.heap.size + 1, 0, none⟩)] #[.int .i64 ((j : Int) + 1)] rfl rfl (by (try simp only [List.map_toArray, List.map_cons, List.map_nil]); first | done | rfl) ?_; (with_reducible refine (up_runs _ _ _ (some ⟨b, 0, none⟩) cap (sumsOf l) A c l.length slope ((j : Int) + 1) _ (by first | exact HWIN.out _ HO.out.b | exact HWIN.out _ (pw_below_drewN HO.out.b _)) (Int.add_nonneg (Int.natCast_nonneg j) (by decide))).mono ?_); rintro e w' ⟨rfl, hb⟩; refine ⟨_, rfl, ?_⟩; have n0_ := Aside0.mk (by first | exact HO.out.below hb | exact HO.out.belowN hb : WO we bo slope _ _ w'); clear HO hb; have HO := n0_; clear n0_) | ((with_reducible refine gate_dst (N := 86) rfl ?_); refine goesF_ (some 86) rfl rfl HG.out #[] #[] #[.int .i64 bst, .int .i64 d] rfl rfl (by (try simp only [List.map_toArray, List.map_cons, List.map_nil]); first | done | rfl) ?_; (with_reducible refine (HB.out bst d _).mono ?_); rintro e w' ⟨rfl, hb⟩; refine ⟨_, rfl, ?_⟩; have n0_ := Aside0.mk (by first | exact HO.out.below hb | exact HO.out.belowN hb : WO we bo slope _ _ w'); clear HO hb; have HO := n0_; clear n0_))
                    clear e7 e8 e10 e11 hd hil hjl
                    go_roundw
                    case rel => exact ⟨j + 1, HJT.out, by go_num, by rw [HS2.out], HO⟩
                    case measure => have := HJT.out; simp [intOf]; omega
                  · obtain rfl : j = l.length := by omega
                    have q2 : decide (l.length < l.length) = false := decide_eq_false (by omega)
                    obtain ⟨bst, hbst⟩ : ∃ v, bestTo bet (upF (sumsOf l) l.length slope) (i : Int) l.length = v := ⟨_, rfl⟩
                    rw [hbst]
                    have HBS := Aside0.mk hbst
                    have HMEM := Aside0.mk (show bst ∈ bests bet (upF (sumsOf l) l.length slope) l.length (l.length + 1) from by rw [← hbst]; exact bests_mem bet (upF (sumsOf l) l.length slope) l.length HLT.out)
                    clear hj hjt hbst
                    by_cases hbig : 1073741824 < bst
                    · have q3 : decide (1073741824 < bst) = true := decide_eq_true hbig
                      have HNW := Aside0.mk (HNO.out.below HO.out.b)
                      have e : winF bet l slope = ([], 0, 2) := by
                        unfold winF
                        rw [if_neg HLEN.out, if_neg HNOT.out, if_neg (fun e => e.elim (fun x => x HS.out) (fun x => x HK.out)), if_pos ⟨bst, HMEM.out, hbig⟩]
                      have HE := Aside0.mk e
                      have p0 := (blk_cell HNW.out.hr 0).trans rfl
                      have p5 := (blk_cell HNW.out.hr 1).trans rfl
                      have p6 := blk_frozen HNW.out.hr 0
                      have p7 := blk_frozen HNW.out.hr 1
                      clear hbig e
                      go_wp2
                      refine bodyPost_ret (results_ct rfl _ _ (w.heap.size + 1 + 1) 24 #[.slice none 0 0, .int .i64 0] (0, 0) _ rfl (blk_put (blk_put (by (with_reducible repeat (first | refine blk_drewN ?_ _ | refine blk_drew ?_)); exact HNW.out.hr) 0 _ rfl) 1 _ rfl) Try.underlying24 rfl (by kernel_rfl)) rfl ?_
                      rw [HE.out]
                      exact ⟨_, rfl, Kd.R_nil _ _ _ _ _, (Below.setCell (p := ⟨w.heap.size + 1 + 1, 0, none⟩) (by (with_reducible repeat (first | apply pw_below_drewN | apply below_drew1)); exact HNW.out.b) (by show w.heap.size ≤ w.heap.size + 1 + 1; omega) _).setCell (p := ⟨w.heap.size + 1 + 1, 1, none⟩) (by show w.heap.size ≤ w.heap.size + 1 + 1; omega) _⟩
                    · have q3 : decide (1073741824 < bst) = false := decide_eq_false hbig
                      have HNB := Aside0.mk (show bst ≤ 1073741824 from Int.not_lt.1 hbig)
                      have HLB := Aside0.mk (blk_lt HO.out.ho)
                      have HAL := Aside0.mk (show ((bests bet (upF (sumsOf l) l.length slope) l.length i).length + 1) * 8 ≤ 140737488355328 from by rw [bests_len]; have := HLT.out; have := HLEN.out; omega)
                      have x0 := (blk_cell HO.out.ho 0).trans rfl
                      clear hbig
                      have hi4 : i ≤ 4096 := by have := HLT.out; have := HLEN.out; omega
                      have e7 : IntKind.i64.wrap ((i : Int) + 1) = (i : Int) + 1 := IntWalk.i64_in _ (by omega)
                      have e9 : wrap64 ((i : Int) + 1) = (i : Int) + 1 := by unfold wrap64; omega
                      go_wp2_with (first | ((with_reducible refine gate_builtin (b := .append) (xs := #[.tmp 92, .tmp 94]) rfl ?_); at_builtin; refine Kd.R_append (Kd.int .i64) (w0 := we) we.heap.size rfl (.tmp 92) (.tmp 94) 22 3 (.int .i64 0) 8 rfl Try.underlying22 info3 rfl (by decide) (by decide) u (bests bet (upF (sumsOf l) l.length slope) l.length i) bst [.int .i64 bst] (fun k => k ≠ bo) (fun _ => False) rfl rfl ?aP (fun _ hk => hk.elim) ?aF ?aO ?aB ?aS ?aL ?_; (case aP => exact rfl); (case aB => exact HO.out.b); (case aF => exact (fun k hk => Nat.ne_of_gt (Nat.lt_of_lt_of_le HLB.out hk))); (case aO => exact HO.out.r); (case aS => exact HO.out.b.size); (case aL => exact HAL.out); intro v1 w1 ho hb hg hat; have HBO1 := Aside0.mk (blk_grown HO.out.ho hg (Kd.R_ne HO.out.r HO.out.ho (by decide))); obtain ⟨A1, k1, rfl⟩ := Kd.R_slice ho; have HR1 := Aside0.mk ho; have HB1 := Aside0.mk hb; clear ho hb hg hat; have y0 := (blk_cell HBO1.out 0).trans rfl; have y2 := blk_frozen HBO1.out 0))
                      have HW1 : Aside0 (WO we bo slope (bests bet (upF (sumsOf l) l.length slope) l.length (i + 1)) (.slice A1 (bests bet (upF (sumsOf l) l.length slope) l.length i ++ [bst]).length k1) (w1.setCell ⟨bo, 0, none⟩ (.slice A1 (bests bet (upF (sumsOf l) l.length slope) l.length i ++ [bst]).length k1))) :=
                        ⟨⟨HB1.out.setCell (p := ⟨bo, 0, none⟩) (by show we.heap.size ≤ bo; have := HBE.out; omega) _, blk_put HBO1.out 0 _ rfl, by rw [bests_succ, HBS.out]; exact Kd.R_far (p := ⟨bo, 0, none⟩) HR1.out (fun k hk => hk) _⟩⟩
                      have HLE1 : Aside0 (∀ x ∈ bests bet (upF (sumsOf l) l.length slope) l.length (i + 1), x ≤ 1073741824) := ⟨fun x hx => by
                        rw [bests_succ, HBS.out, List.mem_append] at hx
                        rcases hx with hx | hx
                        · exact HLE.out x hx
                        · rw [List.mem_singleton] at hx
                          rw [hx]; exact HNB.out⟩
                      have hsl : (bests bet (upF (sumsOf l) l.length slope) l.length i ++ [bst]).length = (bests bet (upF (sumsOf l) l.length slope) l.length i).length + 1 := by simp
                      rw [hsl] at HW1
                      clear e7 hi4 x0 y0 y2 hsl
                      go_roundw
                      case rel => exact ⟨i + 1, _, HLT.out, by go_num, HLE1, HW1⟩
                      case measure => have := HLT.out; simp [intOf]; omega
              · obtain rfl : i = l.length + 1 := by omega
                have q0 : decide (l.length + 1 < l.length + 1) = false := decide_eq_false (by omega)
                have q1 : decide ((l.length : Int) + 1 < (l.length : Int) + 1) = false := decide_eq_false (by omega)
                have e : winF bet l slope = (bests bet (upF (sumsOf l) l.length slope) l.length (l.length + 1), slope, 0) := by
                  unfold winF
                  rw [if_neg HLEN.out, if_neg HNOT.out, if_neg (fun e => e.elim (fun x => x HS.out) (fun x => x HK.out)), if_neg (fun ⟨x, hx, hg⟩ => Int.not_lt.2 (HLE.out x hx) hg)]
                have HE := Aside0.mk e
                obtain ⟨AR, cR, rfl⟩ := Kd.R_slice HO.out.r
                have HNW := Aside0.mk (HNO.out.below HO.out.b)
                have p0 := (blk_cell HNW.out.hr 0).trans rfl
                have p5 := (blk_cell HNW.out.hr 1).trans rfl
                have p6 := blk_frozen HNW.out.hr 0
                have p7 := blk_frozen HNW.out.hr 1
                have x0 := (blk_cell HO.out.ho 0).trans rfl
                have x1 := (blk_cell HO.out.ho 1).trans rfl
                have n1 : ¬ bo = w.heap.size + 1 + 1 := (by have := HGE.out; omega)
                have n2 : ¬ w.heap.size + 1 + 1 = bo := (by have := HGE.out; omega)
                clear hi hlt e
                go_wp2
                refine bodyPost_ret (results_ct rfl _ _ (w.heap.size + 1 + 1) 24 #[.slice AR (bests bet (upF (sumsOf l) l.length slope) l.length (l.length + 1)).length cR, .int .i64 slope] (0, 0) _ rfl (blk_put (blk_put HNW.out.hr 0 _ rfl) 1 _ rfl) Try.underlying24 rfl (by kernel_rfl)) rfl ?_
                rw [HE.out]
                refine ⟨_, rfl, Kd.R_mono (Kd.R_lower (R_old (R_old HO.out.r ?_ 0 _) ?_ 1 _) (HNO.out.b.size)) (fun _ _ => trivial), (HNW.out.b.setCell (p := ⟨w.heap.size + 1 + 1, 0, none⟩) (by show w.heap.size ≤ w.heap.size + 1 + 1; omega) _).setCell (p := ⟨w.heap.size + 1 + 1, 1, none⟩) (by show w.heap.size ≤ w.heap.size + 1 + 1; omega) _⟩
                · have := HNO.out.sz; omega
                · have := HNO.out.sz; omega
          · have HS := Aside0.mk hs
            have HK := Aside0.mk hk
            have e : winF bet l slope = ([], 0, 2) := by unfold winF; rw [if_neg HLEN.out, if_neg HNOT.out, if_pos (Or.inr hk)]
            have HE := Aside0.mk e
            have p0 := (blk_cell HNO.out.hr 0).trans rfl
            have p5 := (blk_cell HNO.out.hr 1).trans rfl
            have p6 := blk_frozen HNO.out.hr 0
            have p7 := blk_frozen HNO.out.hr 1
            clear hs hk e
            go_wp2_with (first | ((with_reducible refine gate_callee (f := 41) rfl ?_); (try (refine gate_guard (by rfl) ?_; dsimp only)); refine goesL_ (some 48) rfl rfl Try.func41 (by kernel_rfl) rfl #[.int .i64 l.sum] rfl (by (try simp only [List.map_toArray, List.map_cons, List.map_nil]); first | done | rfl) ?_; (with_reducible refine (curve_time.calls l.sum true _ (time_yes HS.out)).mono ?_); rintro e w' ⟨rfl, ⟨nd, rfl⟩⟩; refine ⟨_, rfl, ?_⟩) | ((with_reducible refine gate_callee (f := 41) rfl ?_); (try (refine gate_guard (by rfl) ?_; dsimp only)); refine goesL_ (some 52) rfl rfl Try.func41 (by kernel_rfl) rfl #[.int .i64 slope] rfl (by (try simp only [List.map_toArray, List.map_cons, List.map_nil]); first | done | rfl) ?_; (with_reducible refine (curve_time.calls slope false _ (time_no HK.out)).mono ?_); rintro e w' ⟨rfl, ⟨nd, rfl⟩⟩; refine ⟨_, rfl, ?_⟩))
            refine bodyPost_ret (results_ct rfl _ _ (w.heap.size + 1 + 1) 24 #[.slice none 0 0, .int .i64 0] (0, 0) _ rfl (blk_put (blk_put (by (with_reducible repeat (first | refine blk_drewN ?_ _ | refine blk_drew ?_)); exact HNO.out.hr) 0 _ rfl) 1 _ rfl) Try.underlying24 rfl (by kernel_rfl)) rfl ?_
            rw [HE.out]
            exact ⟨_, rfl, Kd.R_nil _ _ _ _ _, (Below.setCell (p := ⟨w.heap.size + 1 + 1, 0, none⟩) (by (with_reducible repeat (first | apply pw_below_drewN | apply below_drew1)); exact HNO.out.b) (by show w.heap.size ≤ w.heap.size + 1 + 1; omega) _).setCell (p := ⟨w.heap.size + 1 + 1, 1, none⟩) (by show w.heap.size ≤ w.heap.size + 1 + 1; omega) _⟩
        · have HS := Aside0.mk hs
          have e : winF bet l slope = ([], 0, 2) := by unfold winF; rw [if_neg HLEN.out, if_neg HNOT.out, if_pos (Or.inl hs)]
          have HE := Aside0.mk e
          have p0 := (blk_cell HNO.out.hr 0).trans rfl
          have p5 := (blk_cell HNO.out.hr 1).trans rfl
          have p6 := blk_frozen HNO.out.hr 0
          have p7 := blk_frozen HNO.out.hr 1
          clear hs e
          go_wp2_with (first | ((with_reducible refine gate_callee (f := 41) rfl ?_); refine goesL_ (some 48) rfl rfl Try.func41 (by kernel_rfl) rfl #[.int .i64 l.sum] rfl (by (try simp only [List.map_toArray, List.map_cons, List.map_nil]); first | done | rfl) ?_; (with_reducible refine (curve_time.calls l.sum false _ (time_no HS.out)).mono ?_); rintro e w' ⟨rfl, ⟨nd, rfl⟩⟩; refine ⟨_, rfl, ?_⟩))
          refine bodyPost_ret (results_ct rfl _ _ (w.heap.size + 1 + 1) 24 #[.slice none 0 0, .int .i64 0] (0, 0) _ rfl (blk_put (blk_put (by (with_reducible repeat (first | refine blk_drewN ?_ _ | refine blk_drew ?_)); exact HNO.out.hr) 0 _ rfl) 1 _ rfl) Try.underlying24 rfl (by kernel_rfl)) rfl ?_
          rw [HE.out]
          exact ⟨_, rfl, Kd.R_nil _ _ _ _ _, (Below.setCell (p := ⟨w.heap.size + 1 + 1, 0, none⟩) (by (with_reducible repeat (first | apply pw_below_drewN | apply below_drew1)); exact HNO.out.b) (by show w.heap.size ≤ w.heap.size + 1 + 1; omega) _).setCell (p := ⟨w.heap.size + 1 + 1, 1, none⟩) (by show w.heap.size ≤ w.heap.size + 1 + 1; omega) _⟩

theorem max_ok : FnOk Try.prog 36 := ⟨_, Try.func36, by kernel_rfl, by kernel_rfl⟩
theorem min2_ok : FnOk Try.prog 38 := ⟨_, Try.func38, by kernel_rfl, by kernel_rfl⟩
theorem max_run (x y : Int) (W : World) : Calls Try.prog 36 (#[] ++ #[.int .i64 x, .int .i64 y] ++ #[]) W fun e w' => e = .returned (.int .i64 (mx x y)) ∧ Below W.heap.size W w' := by
  show Calls Try.prog 36 #[.int .i64 x, .int .i64 y] W _
  obtain ⟨z, hz⟩ : ∃ z, mx x y = z := ⟨_, rfl⟩
  have hz2 : (if x < y then y else x) = z := hz
  rw [hz]
  clear hz
  go_enter Try.func36, Try.ntmps36
  go_wp2
  go_ret
  exact ⟨rfl, Below.refl _ _⟩
theorem min_run2 (x y : Int) (W : World) : Calls Try.prog 38 (#[] ++ #[.int .i64 x, .int .i64 y] ++ #[]) W fun e w' => e = .returned (.int .i64 (mn x y)) ∧ Below W.heap.size W w' := by
  show Calls Try.prog 38 #[.int .i64 x, .int .i64 y] W _
  obtain ⟨z, hz⟩ : ∃ z, mn x y = z := ⟨_, rfl⟩
  have hz2 : (if y < x then y else x) = z := hz
  rw [hz]
  clear hz
  go_enter Try.func38, Try.ntmps38
  go_wp2
  go_ret
  exact ⟨rfl, Below.refl _ _⟩
def curve_Arrival.f (l : List Int) (slope : Int) : Option (List Int × Int × Int) := some (winF mx l slope)
def curve_Service.f (l : List Int) (slope : Int) : Option (List Int × Int × Int) := some (winF mn l slope)
set_option maxHeartbeats 1000000 in
set_option maxRecDepth 100000 in
theorem curve_Arrival.calls (A0 : Option Addr) (c0 : Nat) (l0 : List Int) (a1 : Int) (r1 : List Int) (r2 : Int) (r3 : Int) (w : World) (hr0 : Kd.C (Kd.int .i64) w A0 l0.length l0) (hc0 : l0.length ≤ c0) (h : curve_Arrival.f l0 a1 = some (r1, r2, r3)) :
    Calls Try.prog 12 #[.slice A0 l0.length c0, .int .i64 a1] w fun e w' => ∃ v0_ : Value, e = .returned (.tuple #[.agg #[v0_, .int .i64 r2], .int .i64 r3]) ∧ Kd.R (Kd.int .i64) 3 w' w.heap.size (fun _ => True) v0_ r1 ∧ Below w.heap.size w w' := by
  have HR := Aside0.mk hr0
  have HC := Aside0.mk hc0
  have H := Aside0.mk (Option.some.inj h)
  clear hr0 hc0 h
  go_enter Try.func12, Try.ntmps12
  go_wp2_with fail
  refine (windows_run mx 36 max_ok max_run A0 c0 l0 a1 _ (Kd.C_below HR.out (by repeat (first | exact Below.refl _ _ | apply below_alloc))) HC.out).mono ?_
  rintro e w1 ⟨v0_, rfl, R0, hb⟩
  rw [H.out] at R0
  rw [H.out]
  obtain ⟨BR, dR, rfl⟩ := Kd.R_slice R0
  have e0 := heap_alloc_new w (.cells #[.slice none 0 0, .int .i64 0] 24)
  have TB := Aside0.mk (blk_below e0 hb)
  have RR := Aside0.mk R0
  have HB1 := Aside0.mk (Below.trans (below_alloc (Below.refl w.heap.size w) _) (hb.mono (by simp)) : Below w.heap.size w w1)
  have HL := Aside0.mk (show w.heap.size < (w.alloc (.cells #[.slice none 0 0, .int .i64 0] 24)).heap.size from by simp)
  have p0 := (blk_cell TB.out 0).trans rfl
  have p1 := (blk_cell TB.out 1).trans rfl
  have p2 := blk_frozen TB.out 0
  have p3 := blk_frozen TB.out 1
  clear R0 hb e0
  go_wp2
  refine bodyPost_ret (results_ct rfl _ _ w.heap.size 24 #[.slice BR r1.length dR, .int .i64 r2] (0, 0) _ rfl (blk_put (blk_put TB.out 0 _ rfl) 1 _ rfl) Try.underlying24 rfl (by kernel_rfl)) rfl ?_
  exact ⟨_, rfl, Kd.R_lower (R_old (R_old RR.out HL.out 0 _) HL.out 1 _) (Nat.le_of_lt HL.out), (HB1.out.setCell (p := ⟨w.heap.size, 0, none⟩) (Nat.le_refl _) _).setCell (p := ⟨w.heap.size, 1, none⟩) (Nat.le_refl _) _⟩
set_option maxHeartbeats 1000000 in
set_option maxRecDepth 100000 in
theorem curve_Service.calls (A0 : Option Addr) (c0 : Nat) (l0 : List Int) (a1 : Int) (r1 : List Int) (r2 : Int) (r3 : Int) (w : World) (hr0 : Kd.C (Kd.int .i64) w A0 l0.length l0) (hc0 : l0.length ≤ c0) (h : curve_Service.f l0 a1 = some (r1, r2, r3)) :
    Calls Try.prog 14 #[.slice A0 l0.length c0, .int .i64 a1] w fun e w' => ∃ v0_ : Value, e = .returned (.tuple #[.agg #[v0_, .int .i64 r2], .int .i64 r3]) ∧ Kd.R (Kd.int .i64) 3 w' w.heap.size (fun _ => True) v0_ r1 ∧ Below w.heap.size w w' := by
  have HR := Aside0.mk hr0
  have HC := Aside0.mk hc0
  have H := Aside0.mk (Option.some.inj h)
  clear hr0 hc0 h
  go_enter Try.func14, Try.ntmps14
  go_wp2_with fail
  refine (windows_run mn 38 min2_ok min_run2 A0 c0 l0 a1 _ (Kd.C_below HR.out (by repeat (first | exact Below.refl _ _ | apply below_alloc))) HC.out).mono ?_
  rintro e w1 ⟨v0_, rfl, R0, hb⟩
  rw [H.out] at R0
  rw [H.out]
  obtain ⟨BR, dR, rfl⟩ := Kd.R_slice R0
  have e0 := heap_alloc_new w (.cells #[.slice none 0 0, .int .i64 0] 24)
  have TB := Aside0.mk (blk_below e0 hb)
  have RR := Aside0.mk R0
  have HB1 := Aside0.mk (Below.trans (below_alloc (Below.refl w.heap.size w) _) (hb.mono (by simp)) : Below w.heap.size w w1)
  have HL := Aside0.mk (show w.heap.size < (w.alloc (.cells #[.slice none 0 0, .int .i64 0] 24)).heap.size from by simp)
  have p0 := (blk_cell TB.out 0).trans rfl
  have p1 := (blk_cell TB.out 1).trans rfl
  have p2 := blk_frozen TB.out 0
  have p3 := blk_frozen TB.out 1
  clear R0 hb e0
  go_wp2
  refine bodyPost_ret (results_ct rfl _ _ w.heap.size 24 #[.slice BR r1.length dR, .int .i64 r2] (0, 0) _ rfl (blk_put (blk_put TB.out 0 _ rfl) 1 _ rfl) Try.underlying24 rfl (by kernel_rfl)) rfl ?_
  exact ⟨_, rfl, Kd.R_lower (R_old (R_old RR.out HL.out 0 _) HL.out 1 _) (Nat.le_of_lt HL.out), (HB1.out.setCell (p := ⟨w.heap.size, 0, none⟩) (Nat.le_refl _) _).setCell (p := ⟨w.heap.size, 1, none⟩) (Nat.le_refl _) _⟩
end Go.Proofs.Ytanlonngekgibaa.Pr

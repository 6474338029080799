/- planner.newCarrier. -/
import Derived.IntWalk
import Derived.Test.YtcflacjidabppaaGEnd
namespace Go.Proofs.Ytcflacjidabppaa.Pr
open Go.RowKit Go.Proofs.YtcflacjidabppaaW.PrintWords Go.Proofs.YtcflacjidabppaaW.PrintLast Go.Proofs.YtcflacjidabppaaW.PrintMore
set_option linter.unusedVariables false
set_option linter.unusedSimpArgs false
attribute [local go_sem] max2_int min2_int max_two min_two max_three min_three max_four min_four

/-- The sums of the first elements. -/
def sumsOf (l : List Int) : List Int := (List.range (l.length + 1)).map fun i => (l.take i).sum
theorem sumsOf_len (l : List Int) : (sumsOf l).length = l.length + 1 := by simp [sumsOf]
theorem sumsOf_rd (l : List Int) (i : Nat) (h : i ≤ l.length) : rd (sumsOf l) (i : Int) = (l.take i).sum := by
  simp only [rd, sumsOf, Int.toNat_natCast, List.getD_eq_getElem?_getD, List.getElem?_map, List.getElem?_range (show i < l.length + 1 by omega), Option.map_some, Option.getD_some]
theorem sumsOf_snoc (l : List Int) (x : Int) : sumsOf (l ++ [x]) = sumsOf l ++ [l.sum + x] := by
  unfold sumsOf
  rw [List.length_append, List.length_singleton, List.range_succ, List.map_append]
  congr 1
  · refine List.map_congr_left fun i hi => ?_
    have : i ≤ l.length := by have := List.mem_range.1 hi; omega
    rw [List.take_append_of_le_length this]
  · simp [List.take_of_length_le]

theorem take_rd (l : List Int) (i : Nat) (h : i < l.length) : l.take (i + 1) = l.take i ++ [rd l (i : Int)] := by
  rw [List.take_succ_eq_append_getElem h]
  simp [rd, List.getD_eq_getElem?_getD, List.getElem?_eq_getElem h]
theorem sumB (l : List Int) (h : ∀ x ∈ l, 0 ≤ x ∧ x ≤ 4096) : 0 ≤ l.sum ∧ l.sum ≤ 4096 * (l.length : Int) := by
  induction l with
  | nil => simp
  | cons a r ih =>
    have h1 := h a (List.mem_cons_self ..)
    have h2 := ih (fun x hx => h x (List.mem_cons_of_mem _ hx))
    rw [List.sum_cons, List.length_cons]
    omega

/-- What holds when i elements have been added. -/
def NCI (w : World) (l : List Int) (i : Nat) (W : World) : Prop :=
  Below w.heap.size w W ∧ w.heap.size + 2 ≤ W.heap.size ∧ ∃ u lst, W.heap[w.heap.size + 1]? = some (.cells #[u, .int .i64 lst] 91 (0, 0)) ∧
    (Kd.int .i64).R 3 W w.heap.size (fun k => k ≠ w.heap.size + 1) u (sumsOf (l.take i)) ∧ lst = (if i = 0 then 0 else rd l ((i : Int) - 1))

theorem NCI.start (w : World) (l : List Int) : NCI w l 0 ((w.alloc (.cells #[.int .i64 0] 3)).alloc (.cells #[.slice (some ⟨w.heap.size, 0, none⟩) 1 1, .int .i64 0] 91)) := by
  refine ⟨below_alloc (below_alloc (Below.refl _ _) _) _, by simp, .slice (some ⟨w.heap.size, 0, none⟩) 1 1, 0, ?_, ?_, rfl⟩
  · have := heap_alloc_new (w.alloc (.cells #[.int .i64 0] 3)) (.cells #[.slice (some ⟨w.heap.size, 0, none⟩) 1 1, .int .i64 0] 91)
    rw [World.size_alloc] at this
    exact this
  · refine Kd.R_below ?_ (below_alloc (Below.refl _ _) _)
    have h := own_lit w w.heap.size 3 .i64 [0] (Nat.le_refl _) (by simp)
    exact Kd.R_of_own (h1 := fun _ => rfl) (xs := [(0 : Int)]) h (fun k hk => by simp [Value.ownBlock] at hk; omega)

theorem NCI.step (w : World) (l : List Int) (i : Nat) (W1 : World) (v u0 : Value) (lst0 x : Int) (hb : Below w.heap.size w W1) (hsz : w.heap.size + 2 ≤ W1.heap.size)
    (hblk : W1.heap[w.heap.size + 1]? = some (.cells #[u0, .int .i64 lst0] 91 (0, 0))) (hR : (Kd.int .i64).R 3 W1 w.heap.size (fun k => k ≠ w.heap.size + 1) v (sumsOf (l.take (i + 1)))) (hx : rd l (i : Int) = x) :
    NCI w l (i + 1) ((W1.setCell ⟨w.heap.size + 1, 0, none⟩ v).setCell ⟨w.heap.size + 1, 1, none⟩ (.int .i64 x)) := by
  refine ⟨(hb.setCell (p := ⟨w.heap.size + 1, 0, none⟩) (by simp) _).setCell (p := ⟨w.heap.size + 1, 1, none⟩) (by simp) _, by simp [World.setCell]; omega, v, x, ?_, ?_, ?_⟩
  · exact blk_put (cs' := #[v, .int .i64 x]) (blk_put (cs' := #[v, .int .i64 lst0]) hblk 0 v rfl) 1 _ rfl
  · exact Kd.R_far (p := ⟨w.heap.size + 1, 1, none⟩) (Kd.R_far (p := ⟨w.heap.size + 1, 0, none⟩) hR (fun k hk => hk) _) (fun k hk => hk) _
  · rw [if_neg (by omega), show (((i + 1 : Nat) : Int) - 1) = i from by omega, hx]

set_option maxHeartbeats 4000000 in
set_option maxRecDepth 100000 in
theorem newCarrier_own (A : Option Addr) (c : Nat) (l : List Int) (w : World) (hr : Kd.C (Kd.int .i64) w A l.length l) (hc : l.length ≤ c) (hl : l.length ≤ 4096) (hx : ∀ x ∈ l, 0 ≤ x ∧ x ≤ 4096) :
    Calls Try.prog 36 #[.slice A l.length c] w fun e w' => ∃ g A2 c2, e = .returned (.pointer (some ⟨g, 0, none⟩)) ∧ w'.heap[g]? = some (.cells #[.slice A2 (sumsOf l).length c2, .int .i64 (rd l ((l.length : Int) - 1))] 91 (0, 0)) ∧ (Kd.int .i64).R 3 w' w.heap.size (fun k => k ≠ g) (.slice A2 (sumsOf l).length c2) (sumsOf l) ∧ w.heap.size ≤ g ∧ Below w.heap.size w w' := by
  have HR := Aside0.mk hr
  have HX := Aside0.mk hx
  clear hr hx
  go_enter Try.func36, Try.ntmps36
  go_wp2
  go_loopw [11] (fun v wr => ∃ i : Nat, i ≤ l.length ∧ v = .int .i64 i ∧ Aside0 (NCI w l i wr)) (fun v _ => l.length - (intOf v).toNat)
  case atStart => exact ⟨0, Nat.zero_le _, rfl, ⟨NCI.start w l⟩⟩
  case round =>
    obtain ⟨i, hi, rfl, hN⟩ := hrel
    obtain ⟨hb, hsz, u, lst, hblk, hR, hlst⟩ := hN.out
    by_cases hlt : i < l.length
    · have hlen : (sumsOf (l.take i)).length = i + 1 := by rw [sumsOf_len, List.length_take]; omega
      obtain ⟨b, cap, hu, hb1, hb2, _⟩ := Kd.R_form hR (by omega)
      rw [hlen] at hu
      subst hu
      obtain ⟨ad, rfl, hcell⟩ := Kd.at_int (Kd.C_below HR.out hb) (i : Int) (by omega) (by omega)
      rw [Int.toNat_natCast] at hcell
      have hpre := sumB (l.take i) (fun x hx => HX.out x (List.mem_of_mem_take hx))
      have htl : (l.take i).length ≤ 4096 := by rw [List.length_take]; omega
      have hxi := HX.out _ (rd_mem l (i : Int) (by omega) (by omega))
      have hsn : sumsOf (l.take (i + 1)) = sumsOf (l.take i) ++ [(l.take i).sum + rd l (i : Int)] := by rw [take_rd l i hlt, sumsOf_snoc]
      have hc1 : wr.cell? ⟨b, i, none⟩ = some (.int .i64 (l.take i).sum) := by
        have h := Kd.R_celln (0 : Int) hR (i : Int) (by omega) (by omega)
        rw [Int.toNat_natCast] at h
        rw [h.1]
        have e : rdOf 0 (sumsOf (l.take i)) (i : Int) = rd (sumsOf (l.take i)) (i : Int) := rfl
        rw [e, sumsOf_rd _ _ (by rw [List.length_take]; omega), List.take_take, Nat.min_self]
      have hc0 : wr.cell? ⟨w.heap.size + 1, 0, none⟩ = some (.slice (some ⟨b, 0, none⟩) (i + 1) cap) := (blk_cell hblk 0).trans rfl
      have HNE := Aside0.mk (show ¬ w.heap.size + 1 = b from fun e => (hR.1 b (by simp [Value.ownBlock])) e.symm)
      have HRW := Aside0.mk hR
      have HBB := Aside0.mk hb
      have HSZ := Aside0.mk hsz
      have HLN := Aside0.mk hlen
      have HL8 := Aside0.mk (show ((sumsOf (l.take i)).length + 1) * 8 ≤ 140737488355328 from by rw [hlen]; omega)
      have HS8 := Aside0.mk (show w.heap.size ≤ wr.heap.size from by omega)
      have HF8 := Aside0.mk (show ∀ k, wr.heap.size ≤ k → k ≠ w.heap.size + 1 from fun k hk => by omega)
      have HBK := Aside0.mk hblk
      have HSN := Aside0.mk hsn
      have HLT := Aside0.mk hlt
      obtain ⟨n, hn⟩ : ∃ n, n = i := ⟨_, rfl⟩
      have e4 := Aside0.mk (show wrap64 ((i : Int) + 1) = (i : Int) + 1 from by unfold wrap64; omega)
      have e1 : IntKind.i64.wrap ((l.take i).sum + rd l (i : Int)) = (l.take i).sum + rd l (i : Int) := IntWalk.i64_in _ (by omega)
      have e2 : wrap64 ((l.take i).sum + rd l (i : Int)) = (l.take i).sum + rd l (i : Int) := by unfold wrap64; omega
      have hl2 : i ≤ 4096 := by omega
      have q0 : decide (i < l.length) = true := decide_eq_true hlt
      have p1 : ((i : Int) < (l.length : Int)) = True := eq_true (by omega)
      have p2 : (i < l.length) = True := eq_true hlt
      have q1 : decide ((i : Int) < l.length) = true := decide_eq_true (by omega)
      clear hpre htl hxi hsn hR hb hsz hlen hblk hlst hN hlt
      obtain ⟨y, hy⟩ : ∃ y, Aside0 ((l.take i).sum = y) := ⟨_, ⟨rfl⟩⟩
      obtain ⟨x, hx2⟩ : ∃ x, Aside0 (rd l (i : Int) = x) := ⟨_, ⟨rfl⟩⟩
      rw [hy.out] at hc1 e1 e2
      rw [hx2.out] at hcell e1 e2
      subst hn
      have e0 : wrap64 (n : Int) = n := by unfold wrap64; omega
      have e3 : ((n : Int) < (n : Int) + 1) = True := eq_true (by omega)
      go_wp2
      refine start_ (n := 24) (S := fun w' => w'.cell? ⟨w.heap.size + 1, 0, none⟩ = some (.slice (some ⟨b, 0, none⟩) (n + 1) cap) ∧ w'.cell? ⟨b, n, none⟩ = some (.int .i64 y)) (ds := [20, 23]) #[false, false, false, false, false, false, false, false, false, false, false, false, false, false, false, false, false, false, false, false, false, false, false, false] (by kernel_rfl) rfl rfl ⟨hc0, hc1⟩ (fun hHeld => ?_)
      refine pure_ (i := 0) (N := some 15) (v := ?_) (a' := ?_) #[true, false, false, false, false, false, false, false, false, false, false, false, false, false, false, false, false, false, false, false, false, false, false, false] rfl rfl (by kernel_rfl) (fun _ _ _ h => h) (Or.inl ⟨by rfl, ?_⟩) ?_ ?_
      rotate_left
      · intro w'
        go_simp
        with_reducible rfl
      rotate_left
      · simp only [Act.put, List.setIfInBounds_toArray, List.set_cons_zero, List.set_cons_succ, i64_w, i32_w]
        rfl
      refine pure_ (i := 1) (N := some 16) (v := ?_) (a' := ?_) #[true, true, false, false, false, false, false, false, false, false, false, false, false, false, false, false, false, false, false, false, false, false, false, false] rfl rfl (by kernel_rfl) (fun _ _ _ h => h) (Or.inl ⟨by rfl, ?_⟩) ?_ ?_
      rotate_left
      · intro w'
        go_simp
        with_reducible rfl
      rotate_left
      · simp only [Act.put, List.setIfInBounds_toArray, List.set_cons_zero, List.set_cons_succ, i64_w, i32_w]
        rfl
      refine pure_ (i := 2) (N := some 17) (v := ?_) (a' := ?_) #[true, true, true, false, false, false, false, false, false, false, false, false, false, false, false, false, false, false, false, false, false, false, false, false] rfl rfl (by kernel_rfl) (fun _ _ _ h => h) (Or.inl ⟨by rfl, ?_⟩) ?_ ?_
      rotate_left
      · intro w'
        go_simp
        with_reducible rfl
      rotate_left
      · simp only [Act.put, List.setIfInBounds_toArray, List.set_cons_zero, List.set_cons_succ, i64_w, i32_w]
        rfl
      refine pure_ (i := 3) (N := some 18) (v := ?_) (a' := ?_) #[true, true, true, true, false, false, false, false, false, false, false, false, false, false, false, false, false, false, false, false, false, false, false, false] rfl rfl (by kernel_rfl) (fun _ _ _ h => h) (Or.inl ⟨by rfl, ?_⟩) ?_ ?_
      rotate_left
      · intro w'
        go_simp
        with_reducible rfl
      rotate_left
      · simp only [Act.put, List.setIfInBounds_toArray, List.set_cons_zero, List.set_cons_succ, i64_w, i32_w]
        rfl
      refine pure_ (i := 5) (N := some 20) (v := ?_) (a' := ?_) #[true, true, true, true, false, true, false, false, false, false, false, false, false, false, false, false, false, false, false, false, false, false, false, false] rfl rfl (by kernel_rfl) (fun _ _ _ h => h) (Or.inl ⟨by rfl, ?_⟩) ?_ ?_
      rotate_left
      · intro w'
        go_simp
        with_reducible rfl
      rotate_left
      · simp only [Act.put, List.setIfInBounds_toArray, List.set_cons_zero, List.set_cons_succ, i64_w, i32_w]
        rfl
      refine pure_ (i := 6) (N := some 21) (v := ?_) (a' := ?_) #[true, true, true, true, false, true, true, false, false, false, false, false, false, false, false, false, false, false, false, false, false, false, false, false] rfl rfl (by kernel_rfl) (fun _ _ _ h => h) (Or.inl ⟨by rfl, ?_⟩) ?_ ?_
      rotate_left
      · intro w'
        go_simp
        with_reducible rfl
      rotate_left
      · simp only [Act.put, List.setIfInBounds_toArray, List.set_cons_zero, List.set_cons_succ, i64_w, i32_w]
        rfl
      refine pure_ (i := 7) (N := some 22) (v := ?_) (a' := ?_) #[true, true, true, true, false, true, true, true, false, false, false, false, false, false, false, false, false, false, false, false, false, false, false, false] rfl rfl (by kernel_rfl) (fun _ _ _ h => h) (Or.inl ⟨by rfl, ?_⟩) ?_ ?_
      rotate_left
      · intro w'
        go_simp
        with_reducible rfl
      rotate_left
      · simp only [Act.put, List.setIfInBounds_toArray, List.set_cons_zero, List.set_cons_succ, i64_w, i32_w]
        rfl
      refine pure_ (i := 9) (N := some 24) (v := ?_) (a' := ?_) #[true, true, true, true, false, true, true, true, false, true, false, false, false, false, false, false, false, false, false, false, false, false, false, false] rfl rfl (by kernel_rfl) (fun _ _ _ h => h) (Or.inl ⟨by rfl, ?_⟩) ?_ ?_
      rotate_left
      · intro w'
        go_simp
        with_reducible rfl
      rotate_left
      · simp only [Act.put, List.setIfInBounds_toArray, List.set_cons_zero, List.set_cons_succ, i64_w, i32_w]
        rfl
      refine pure_ (i := 10) (N := some 25) (v := ?_) (a' := ?_) #[true, true, true, true, false, true, true, true, false, true, true, false, false, false, false, false, false, false, false, false, false, false, false, false] rfl rfl (by kernel_rfl) (fun _ _ _ h => h) (Or.inl ⟨by rfl, ?_⟩) ?_ ?_
      rotate_left
      · intro w'
        go_simp
        with_reducible rfl
      rotate_left
      · simp only [Act.put, List.setIfInBounds_toArray, List.set_cons_zero, List.set_cons_succ, i64_w, i32_w]
        rfl
      refine pure_ (i := 11) (N := some 26) (v := ?_) (a' := ?_) #[true, true, true, true, false, true, true, true, false, true, true, true, false, false, false, false, false, false, false, false, false, false, false, false] rfl rfl (by kernel_rfl) (fun _ _ _ h => h) (Or.inl ⟨by rfl, ?_⟩) ?_ ?_
      rotate_left
      · intro w'
        go_simp
        with_reducible rfl
      rotate_left
      · simp only [Act.put, List.setIfInBounds_toArray, List.set_cons_zero, List.set_cons_succ, i64_w, i32_w]
        rfl
      refine pure_ (i := 17) (N := some 32) (v := ?_) (a' := ?_) #[true, true, true, true, false, true, true, true, false, true, true, true, false, false, false, false, false, true, false, false, false, false, false, false] rfl rfl (by kernel_rfl) (fun _ _ _ h => h) (Or.inl ⟨by rfl, ?_⟩) ?_ ?_
      rotate_left
      · intro w'
        go_simp
        with_reducible rfl
      rotate_left
      · simp only [Act.put, List.setIfInBounds_toArray, List.set_cons_zero, List.set_cons_succ, i64_w, i32_w]
        rfl
      refine take_ (i := 4) (N := some 19) (v := ?_) (a' := ?_) #[true, true, true, true, true, true, true, true, false, true, true, true, false, false, false, false, false, true, false, false, false, false, false, false] rfl rfl (by kernel_rfl) (fun _ _ _ h => h) (Or.inl ⟨by rfl, ?_⟩) hHeld ?_ ?_
      rotate_left
      · rintro w' ⟨s0, s1⟩
        go_simp
        with_reducible rfl
      rotate_left
      · simp only [Act.put, List.setIfInBounds_toArray, List.set_cons_zero, List.set_cons_succ, i64_w, i32_w]
        rfl
      refine take_ (i := 8) (N := some 23) (v := ?_) (a' := ?_) #[true, true, true, true, true, true, true, true, true, true, true, true, false, false, false, false, false, true, false, false, false, false, false, false] rfl rfl (by kernel_rfl) (fun _ _ _ h => h) (Or.inl ⟨by rfl, ?_⟩) hHeld ?_ ?_
      rotate_left
      · rintro w' ⟨s0, s1⟩
        go_simp
        with_reducible rfl
      rotate_left
      · simp only [Act.put, List.setIfInBounds_toArray, List.set_cons_zero, List.set_cons_succ, i64_w, i32_w]
        rfl
      refine take_ (i := 12) (N := some 27) (v := ?_) (a' := ?_) #[true, true, true, true, true, true, true, true, true, true, true, true, true, false, false, false, false, true, false, false, false, false, false, false] rfl rfl (by kernel_rfl) (fun _ _ _ h => h) (Or.inl ⟨by rfl, ?_⟩) hHeld ?_ ?_
      rotate_left
      · rintro w' ⟨s0, s1⟩
        go_simp
        with_reducible rfl
      rotate_left
      · simp only [Act.put, List.setIfInBounds_toArray, List.set_cons_zero, List.set_cons_succ, i64_w, i32_w]
        rfl
      refine pure_ (i := 13) (N := some 28) (v := ?_) (a' := ?_) #[true, true, true, true, true, true, true, true, true, true, true, true, true, true, false, false, false, true, false, false, false, false, false, false] rfl rfl (by kernel_rfl) (fun _ _ _ h => h) (Or.inl ⟨by rfl, ?_⟩) ?_ ?_
      rotate_left
      · intro w'
        go_simp
        with_reducible rfl
      rotate_left
      · simp only [Act.put, List.setIfInBounds_toArray, List.set_cons_zero, List.set_cons_succ, i64_w, i32_w]
        rfl
      refine pure_ (i := 14) (N := some 29) (v := ?_) (a' := ?_) #[true, true, true, true, true, true, true, true, true, true, true, true, true, true, true, false, false, true, false, false, false, false, false, false] rfl rfl (by kernel_rfl) (fun _ _ _ h => h) (Or.inl ⟨by rfl, ?_⟩) ?_ ?_
      rotate_left
      · intro w'
        go_simp
        with_reducible rfl
      rotate_left
      · simp only [Act.put, List.setIfInBounds_toArray, List.set_cons_zero, List.set_cons_succ, i64_w, i32_w]
        rfl
      refine pure_ (i := 15) (N := some 30) (v := ?_) (a' := ?_) #[true, true, true, true, true, true, true, true, true, true, true, true, true, true, true, true, false, true, false, false, false, false, false, false] rfl rfl (by kernel_rfl) (fun _ _ _ h => h) (Or.inl ⟨by rfl, ?_⟩) ?_ ?_
      rotate_left
      · intro w'
        go_simp
        with_reducible rfl
      rotate_left
      · simp only [Act.put, List.setIfInBounds_toArray, List.set_cons_zero, List.set_cons_succ, i64_w, i32_w]
        rfl
      refine take_ (i := 16) (N := some 31) (v := ?_) (a' := ?_) #[true, true, true, true, true, true, true, true, true, true, true, true, true, true, true, true, true, true, false, false, false, false, false, false] rfl rfl (by kernel_rfl) (fun _ _ _ h => h) (Or.inl ⟨by rfl, ?_⟩) hHeld ?_ ?_
      rotate_left
      · rintro w' ⟨s0, s1⟩
        go_simp
        with_reducible rfl
      rotate_left
      · simp only [Act.put, List.setIfInBounds_toArray, List.set_cons_zero, List.set_cons_succ, i64_w, i32_w]
        rfl
      refine pure_ (i := 18) (N := some 33) (v := ?_) (a' := ?_) #[true, true, true, true, true, true, true, true, true, true, true, true, true, true, true, true, true, true, true, false, false, false, false, false] rfl rfl (by kernel_rfl) (fun _ _ _ h => h) (Or.inl ⟨by rfl, ?_⟩) ?_ ?_
      rotate_left
      · intro w'
        go_simp
        with_reducible rfl
      rotate_left
      · simp only [Act.put, List.setIfInBounds_toArray, List.set_cons_zero, List.set_cons_succ, i64_w, i32_w]
        rfl
      refine one_ (i := 19) (N := some 34) #[true, true, true, true, true, true, true, true, true, true, true, true, true, true, true, true, true, true, true, true, false, false, false, false] rfl rfl (by kernel_rfl) (by decide) (fun K hK => ?_)
      refine value_ (w1 := ?_) (v := ?_) (by rfl) rfl ?_ ?_
      rotate_left 2
      · go_simp
        constructor
        · rfl
        · rfl
      refine hK.out _ _ ⟨cell_al _ _ (World.block_lt_of_cell? _ _ hHeld.1) hHeld.1, cell_al _ _ (World.block_lt_of_cell? _ _ hHeld.2) hHeld.2⟩ (fun hHeld => ?_)
      clear hK K
      refine norm_ (a' := ?_) ?_ ?_
      rotate_left
      · show Act.put _ (some 34) _ = _
        simp only [Act.put, List.setIfInBounds_toArray, List.set_cons_zero, List.set_cons_succ, i64_w, i32_w]
        rfl
      refine last_ (i := 20) (N := some 35) #[true, true, true, true, true, true, true, true, true, true, true, true, true, true, true, true, true, true, true, true, true, false, false, false] rfl rfl (by kernel_rfl) (by decide) (fun K hK => ?_)
      refine Kd.R_append_step (Kd.int .i64) (w0 := w) (W := wr.drew) w.heap.size (by rfl) (.tmp 19) (.tmp 34) 22 3 (.int .i64 0) 8 rfl Try.underlying22 info3 rfl (by decide) (by omega) (.slice (some ⟨b, 0, none⟩) (n + 1) cap) _ (y + x) [.int .i64 (y + x)] (fun k => k ≠ w.heap.size + 1) (fun _ => False) rfl rfl rfl (fun _ h => h.elim) (fun k hk => HF8.out k hk) (Kd.R_drew HRW.out) (below_drew HBB.out) HS8.out HL8.out ?_
      intro v1 w1 ho hb hg hat
      obtain ⟨A1, k1, rfl⟩ := Kd.R_slice ho
      have HO := Aside0.mk ho
      have HB2 := Aside0.mk hb
      have HSZ1 := Aside0.mk (show w.heap.size + 2 ≤ w1.heap.size from Nat.le_trans HSZ.out hg.size)
      have hblk1 := blk_grown (blk_drew HBK.out) hg (by simp [Value.ownBlock]; exact HNE.out)
      have hs0 : w1.cell? ⟨w.heap.size + 1, 0, none⟩ = some (.slice (some ⟨b, 0, none⟩) (n + 1) cap) := (blk_cell hblk1 0).trans rfl
      have hs2 : w1.cell? ⟨w.heap.size + 1, 1, none⟩ = some (.int .i64 lst) := (blk_cell hblk1 1).trans rfl
      have hs3 : w1.frozen? ⟨w.heap.size + 1, 1, none⟩ = false := blk_frozen hblk1 1
      have hs1 : w1.frozen? ⟨w.heap.size + 1, 0, none⟩ = false := blk_frozen hblk1 0
      have HBK1 := Aside0.mk hblk1
      clear ho hb hg hat hblk1
      refine hK.out _ _ ?_
      clear hK K
      refine norm_ (a' := ?_) ?_ ?_
      rotate_left
      · show Act.put _ (some 35) _ = _
        simp only [Act.put, List.setIfInBounds_toArray, List.set_cons_zero, List.set_cons_succ, i64_w, i32_w]
        rfl
      refine pure_ (i := 21) (N := some 36) (v := ?_) (a' := ?_) #[true, true, true, true, true, true, true, true, true, true, true, true, true, true, true, true, true, true, true, true, true, true, false, false] rfl rfl (by kernel_rfl) (fun _ _ _ h => h) (Or.inl ⟨by rfl, ?_⟩) ?_ ?_
      rotate_left
      · intro w'
        go_simp
        with_reducible rfl
      rotate_left
      · simp only [Act.put, List.setIfInBounds_toArray, List.set_cons_zero, List.set_cons_succ, i64_w, i32_w]
        rfl
      refine pure_ (i := 22) (N := some 37) (v := ?_) (a' := ?_) #[true, true, true, true, true, true, true, true, true, true, true, true, true, true, true, true, true, true, true, true, true, true, true, false] rfl rfl (by kernel_rfl) (fun _ _ _ h => h) (Or.inl ⟨by rfl, ?_⟩) ?_ ?_
      rotate_left
      · intro w'
        go_simp
        with_reducible rfl
      rotate_left
      · simp only [Act.put, List.setIfInBounds_toArray, List.set_cons_zero, List.set_cons_succ, i64_w, i32_w]
        rfl
      refine last_ (i := 23) (N := none) #[true, true, true, true, true, true, true, true, true, true, true, true, true, true, true, true, true, true, true, true, true, true, true, true] rfl rfl (by kernel_rfl) (by decide) (fun K hK => ?_)
      refine skip_ (w1 := ?_) (by rfl) rfl ?_ ?_
      rotate_left
      · go_simp
        rfl
      refine hK.out _ _ ?_
      clear hK K
      refine done_ (by kernel_rfl) ?_

      clear e0 e1 e2 e3
      have hst := NCI.step w l n w1 (.slice A1 (sumsOf (l.take n) ++ [y + x]).length k1) (.slice (some ⟨b, 0, none⟩) (n + 1) cap) lst x HB2.out HSZ1.out HBK1.out (by rw [HSN.out, hy.out, hx2.out]; exact HO.out) hx2.out
      have HST := Aside0.mk hst
      have hsl : (sumsOf (l.take n) ++ [y + x]).length = (sumsOf (l.take n)).length + 1 := by simp
      rw [hsl] at HST
      clear hst hsl
      go_wp2
      go_roundw
      case rel => exact ⟨n + 1, HLT.out, by go_num, HST⟩
      case measure => have := HLT.out; simp [intOf]; omega
    · obtain rfl : i = l.length := by omega
      have q0 : decide (l.length < l.length) = false := decide_eq_false (by omega)
      have hle : lst = rd l ((l.length : Int) - 1) := by
        rw [hlst]
        split
        · rename_i e
          have : l = [] := List.eq_nil_of_length_eq_zero e
          subst this; rfl
        · rfl
      rw [List.take_length] at hR
      obtain ⟨A2, c2, rfl, hl2, hr2⟩ := Kd.R_reads hR
      subst hle
      have fin := Aside0.mk (And.intro hblk hR)
      have HBB := Aside0.mk hb
      clear hblk hr2 hR hb hlst hN
      go_wp2
      go_ret
      exact ⟨_, A2, c2, rfl, fin.out.1, fin.out.2, by omega, HBB.out⟩
theorem newCarrier_calls (A : Option Addr) (c : Nat) (l : List Int) (w : World) (hr : Kd.C (Kd.int .i64) w A l.length l) (hc : l.length ≤ c) (hl : l.length ≤ 4096) (hx : ∀ x ∈ l, 0 ≤ x ∧ x ≤ 4096) :
    Calls Try.prog 36 #[.slice A l.length c] w fun e w' => ∃ g, e = .returned (.pointer (some ⟨g, 0, none⟩)) ∧ Car w' g (sumsOf l) (rd l ((l.length : Int) - 1)) ∧ Below w.heap.size w w' := by
  refine (newCarrier_own A c l w hr hc hl hx).mono ?_
  rintro e w' ⟨g, A2, c2, rfl, hblk, hR, _, hb⟩
  obtain ⟨h1, h2, h3⟩ := Kd.R_reads' hR
  exact ⟨g, rfl, ⟨A2, c2, hblk, h2, h3⟩, hb⟩
end Go.Proofs.Ytcflacjidabppaa.Pr

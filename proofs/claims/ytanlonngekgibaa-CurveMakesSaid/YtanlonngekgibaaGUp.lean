/- The closure upTo of curve.windows. -/
import Derived.Test.YtanlonngekgibaaGFnV
import Derived.Test.YtanlonngekgibaaF64
import Derived.IntWalk
namespace Go.Proofs.Ytanlonngekgibaa.Pr
open Go.RowKit Go.Proofs.YtanlonngekgibaaW.PrintWords Go.Proofs.YtanlonngekgibaaW.PrintLast Go.Proofs.YtanlonngekgibaaW.PrintMore
set_option linter.unusedVariables false
set_option linter.unusedSimpArgs false
attribute [local go_sem] max2_int min2_int max_two min_two max_three min_three max_four min_four

/-- The sums, the sequence and the slope in their variables. -/
structure Win (w : World) (bs bl bk : Nat) (sA : Option Addr) (sc : Nat) (sums : List Int) (A : Option Addr) (c n : Nat) (slope : Int) : Prop where
  hs : w.heap[bs]? = some (.cells #[.slice sA sums.length sc] 22 (0, 0))
  hl : w.heap[bl]? = some (.cells #[.slice A n c] 22 (0, 0))
  hk : w.heap[bk]? = some (.cells #[.int .i64 slope] 3 (0, 0))
  rs : Kd.C (Kd.int .i64) w sA sums.length sums
  ns : n < sums.length
theorem Win.below {w w1 : World} {bs bl bk : Nat} {sA : Option Addr} {sc : Nat} {sums : List Int} {A : Option Addr} {c n : Nat} {slope : Int} (h : Win w bs bl bk sA sc sums A c n slope) (hb : Below w.heap.size w w1) : Win w1 bs bl bk sA sc sums A c n slope :=
  ⟨blk_below h.hs hb, blk_below h.hl hb, blk_below h.hk hb, Kd.C_below h.rs hb, h.ns⟩
/-- What upTo answers. -/
def upF (sums : List Int) (n : Nat) (slope t : Int) : Int := if t < (sums.length : Int) then rd sums t else wrap64 (rd sums (n : Int) + wrap64 (wrap64 (t - (n : Int)) * slope))
theorem up_ok : FnOk Try.prog 63 := ⟨_, Try.func63, by kernel_rfl, by kernel_rfl⟩

set_option maxRecDepth 100000 in
theorem up_run (bs bl bk : Nat) (sA : Option Addr) (sc : Nat) (sums : List Int) (A : Option Addr) (c n : Nat) (slope t : Int) (w : World) (hW : Win w bs bl bk sA sc sums A c n slope) (ht : 0 ≤ t) :
    Calls Try.prog 63 #[.int .i64 t, .pointer (some ⟨bs, 0, none⟩), .pointer (some ⟨bl, 0, none⟩), .pointer (some ⟨bk, 0, none⟩)] w fun e w' => e = .returned (.int .i64 (upF sums n slope t)) ∧ Below w.heap.size w w' := by
  have HW := Aside0.mk hW
  have s0 := (blk_cell hW.hs 0).trans rfl
  have l0 := (blk_cell hW.hl 0).trans rfl
  have k0 := (blk_cell hW.hk 0).trans rfl
  have HR := Aside0.mk hW.rs
  have hns := hW.ns
  have hmx : sums.length ≤ 9223372036854775807 := Kd.C_max HR.out
  clear hW
  by_cases hlt : t < (sums.length : Int)
  · have e : upF sums n slope t = rd sums t := if_pos hlt
    obtain ⟨ad, rfl, hcell⟩ := Kd.at_int HR.out t ht hlt
    have q0 : decide (t < (sums.length : Int)) = true := decide_eq_true hlt
    have p0 : (0 ≤ t) = True := eq_true ht
    have p1 : (t < (sums.length : Int)) = True := eq_true hlt
    rw [e]
    clear e
    go_enter Try.func63, Try.ntmps63
    go_wp2
    go_ret
    exact ⟨rfl, Below.refl _ _⟩
  · have e : upF sums n slope t = wrap64 (rd sums (n : Int) + wrap64 (wrap64 (t - (n : Int)) * slope)) := if_neg hlt
    obtain ⟨ad, rfl, hcell⟩ := Kd.at_int HR.out (n : Int) (by omega) (by omega)
    have q0 : decide (t < (sums.length : Int)) = false := decide_eq_false hlt
    have p0 : (0 ≤ (n : Int)) = True := eq_true (by omega)
    have p1 : ((n : Int) < (sums.length : Int)) = True := eq_true (by omega)
    have p2 : (n < sums.length) = True := eq_true hns
    rw [Int.toNat_natCast] at hcell
    obtain ⟨v, hv⟩ : ∃ v, rd sums (n : Int) = v := ⟨_, rfl⟩
    rw [hv] at hcell e
    have e1 : IntKind.i64.wrap (t - (n : Int)) = wrap64 (t - (n : Int)) := i64_w _
    obtain ⟨u, hu⟩ : ∃ u, wrap64 (t - (n : Int)) = u := ⟨_, rfl⟩
    rw [hu] at e1 e
    rw [e]
    have HM0 := Aside0.mk (below_drew (Below.refl w.heap.size w))
    clear hv hu e hlt
    go_enter Try.func63, Try.ntmps63
    go_wp2_with fail
    refine start_ (n := 13) (S := fun w' => w'.cell? ⟨bs, 0, none⟩ = some (.slice (some ad) sums.length sc) ∧ w'.cell? ⟨bl, 0, none⟩ = some (.slice A n c) ∧ w'.cell? ⟨bk, 0, none⟩ = some (.int .i64 slope) ∧ w'.cell? (ad.add n) = some (.int .i64 v)) (ds := [11]) #[false, false, false, false, false, false, false, false, false, false, false, false, false] (by kernel_rfl) rfl rfl ⟨s0, l0, k0, hcell⟩ (fun hHeld => ?_)
    refine pure_ (i := 7) (N := some 21) (v := ?_) (a' := ?_) #[false, false, false, false, false, false, false, true, false, false, false, false, false] rfl rfl (by kernel_rfl) (fun _ _ _ h => h) (Or.inl ⟨by rfl, ?_⟩) ?_ ?_
    rotate_left
    · intro w'
      go_simp
      with_reducible rfl
    rotate_left
    · simp only [Act.put, List.setIfInBounds_toArray, List.set_cons_zero, List.set_cons_succ, i64_w, i32_w]
      rfl
    refine take_ (i := 0) (N := some 14) (v := ?_) (a' := ?_) #[true, false, false, false, false, false, false, true, false, false, false, false, false] rfl rfl (by kernel_rfl) (fun _ _ _ h => h) (Or.inl ⟨by rfl, ?_⟩) hHeld ?_ ?_
    rotate_left
    · rintro w' ⟨s0, s1, s2, s3⟩
      go_simp
      with_reducible rfl
    rotate_left
    · simp only [Act.put, List.setIfInBounds_toArray, List.set_cons_zero, List.set_cons_succ, i64_w, i32_w]
      rfl
    refine take_ (i := 1) (N := some 15) (v := ?_) (a' := ?_) #[true, true, false, false, false, false, false, true, false, false, false, false, false] rfl rfl (by kernel_rfl) (fun _ _ _ h => h) (Or.inl ⟨by rfl, ?_⟩) hHeld ?_ ?_
    rotate_left
    · rintro w' ⟨s0, s1, s2, s3⟩
      go_simp
      with_reducible rfl
    rotate_left
    · simp only [Act.put, List.setIfInBounds_toArray, List.set_cons_zero, List.set_cons_succ, i64_w, i32_w]
      rfl
    refine pure_ (i := 2) (N := some 16) (v := ?_) (a' := ?_) #[true, true, true, false, false, false, false, true, false, false, false, false, false] rfl rfl (by kernel_rfl) (fun _ _ _ h => h) (Or.inl ⟨by rfl, ?_⟩) ?_ ?_
    rotate_left
    · intro w'
      go_simp
      with_reducible rfl
    rotate_left
    · simp only [Act.put, List.setIfInBounds_toArray, List.set_cons_zero, List.set_cons_succ, i64_w, i32_w]
      rfl
    refine pure_ (i := 3) (N := some 17) (v := ?_) (a' := ?_) #[true, true, true, true, false, false, false, true, false, false, false, false, false] rfl rfl (by kernel_rfl) (fun _ _ _ h => h) (Or.inl ⟨by rfl, ?_⟩) ?_ ?_
    rotate_left
    · intro w'
      go_simp
      with_reducible rfl
    rotate_left
    · simp only [Act.put, List.setIfInBounds_toArray, List.set_cons_zero, List.set_cons_succ, i64_w, i32_w]
      rfl
    refine take_ (i := 4) (N := some 18) (v := ?_) (a' := ?_) #[true, true, true, true, true, false, false, true, false, false, false, false, false] rfl rfl (by kernel_rfl) (fun _ _ _ h => h) (Or.inl ⟨by rfl, ?_⟩) hHeld ?_ ?_
    rotate_left
    · rintro w' ⟨s0, s1, s2, s3⟩
      go_simp
      with_reducible rfl
    rotate_left
    · simp only [Act.put, List.setIfInBounds_toArray, List.set_cons_zero, List.set_cons_succ, i64_w, i32_w]
      rfl
    refine take_ (i := 5) (N := some 19) (v := ?_) (a' := ?_) #[true, true, true, true, true, true, false, true, false, false, false, false, false] rfl rfl (by kernel_rfl) (fun _ _ _ h => h) (Or.inl ⟨by rfl, ?_⟩) hHeld ?_ ?_
    rotate_left
    · rintro w' ⟨s0, s1, s2, s3⟩
      go_simp
      with_reducible rfl
    rotate_left
    · simp only [Act.put, List.setIfInBounds_toArray, List.set_cons_zero, List.set_cons_succ, i64_w, i32_w]
      rfl
    refine pure_ (i := 6) (N := some 20) (v := ?_) (a' := ?_) #[true, true, true, true, true, true, true, true, false, false, false, false, false] rfl rfl (by kernel_rfl) (fun _ _ _ h => h) (Or.inl ⟨by rfl, ?_⟩) ?_ ?_
    rotate_left
    · intro w'
      go_simp
      with_reducible rfl
    rotate_left
    · simp only [Act.put, List.setIfInBounds_toArray, List.set_cons_zero, List.set_cons_succ, i64_w, i32_w]
      rfl
    refine take_ (i := 8) (N := some 22) (v := ?_) (a' := ?_) #[true, true, true, true, true, true, true, true, true, false, false, false, false] rfl rfl (by kernel_rfl) (fun _ _ _ h => h) (Or.inl ⟨by rfl, ?_⟩) hHeld ?_ ?_
    rotate_left
    · rintro w' ⟨s0, s1, s2, s3⟩
      go_simp
      with_reducible rfl
    rotate_left
    · simp only [Act.put, List.setIfInBounds_toArray, List.set_cons_zero, List.set_cons_succ, i64_w, i32_w]
      rfl
    refine pure_ (i := 9) (N := some 23) (v := ?_) (a' := ?_) #[true, true, true, true, true, true, true, true, true, true, false, false, false] rfl rfl (by kernel_rfl) (fun _ _ _ h => h) (Or.inl ⟨by rfl, ?_⟩) ?_ ?_
    rotate_left
    · intro w'
      go_simp
      with_reducible rfl
    rotate_left
    · simp only [Act.put, List.setIfInBounds_toArray, List.set_cons_zero, List.set_cons_succ, i64_w, i32_w]
      rfl
    refine pure_ (i := 10) (N := some 24) (v := ?_) (a' := ?_) #[true, true, true, true, true, true, true, true, true, true, true, false, false] rfl rfl (by kernel_rfl) (fun _ _ _ h => h) (Or.inl ⟨by rfl, ?_⟩) ?_ ?_
    rotate_left
    · intro w'
      go_simp
      with_reducible rfl
    rotate_left
    · simp only [Act.put, List.setIfInBounds_toArray, List.set_cons_zero, List.set_cons_succ, i64_w, i32_w]
      rfl
    refine last_ (i := 11) (N := some 25) #[true, true, true, true, true, true, true, true, true, true, true, true, false] rfl rfl (by kernel_rfl) (by decide) (fun K hK => ?_)
    refine goes_ Try.func64 (by kernel_rfl) rfl #[.agg #[.int .i64 v, .int .i64 slope], .int .i64 u] (by rfl) rfl rfl (by simp only [List.map_toArray, List.map_cons, List.map_nil] <;> rfl) ?_
    with_reducible refine (curve_line_at.calls v slope u _ _ rfl).mono ?_
    rintro e w1 ⟨rfl, hbl⟩
    refine ⟨_, rfl, ?_⟩
    have HM1 := Aside0.mk (below_then HM0.out HM0.out.size hbl)
    clear hbl
    refine hK.out _ _ ?_
    clear hK K
    refine norm_ (a' := ?_) ?_ ?_
    rotate_left
    · show Act.put _ (some 25) _ = _
      simp only [Act.put, List.setIfInBounds_toArray, List.set_cons_zero, List.set_cons_succ, i64_w, i32_w]
      rfl
    refine pure_ (i := 12) (N := some 5) (v := ?_) (a' := ?_) #[true, true, true, true, true, true, true, true, true, true, true, true, true] rfl rfl (by kernel_rfl) (fun _ _ _ h => h) (Or.inl ⟨by rfl, ?_⟩) ?_ ?_
    rotate_left
    · intro w'
      go_simp
      with_reducible rfl
    rotate_left
    · simp only [Act.put, List.setIfInBounds_toArray, List.set_cons_zero, List.set_cons_succ, i64_w, i32_w]
      rfl
    refine done_ (by kernel_rfl) ?_

    clear hHeld s0 l0 k0 hcell
    go_wp2
    go_ret
    exact ⟨rfl, HM1.out⟩
end Go.Proofs.Ytanlonngekgibaa.Pr

/- planner.sizes: the sizes of the cycles. -/
import Derived.Maps.AppendAt
import Derived.RangeFuncWrites
import Derived.RangeFuncCalls
import Derived.Test.YtcflacjidabppaaGChunk
namespace Go.Proofs.Ytcflacjidabppaa.Pr
open Go.RowKit Go.Shelf Go.Proofs.YtcflacjidabppaaW.PrintWords Go.Proofs.YtcflacjidabppaaW.PrintLast Go.Proofs.YtcflacjidabppaaW.PrintMore
set_option linter.unusedVariables false
set_option linter.unusedSimpArgs false
attribute [local go_sem] Oper.semAt_some max2_int min2_int max_two min_two max_three min_three max_four min_four

/-- The sum of chunk number k. -/
def ckSum (l : List Int) (p k : Nat) : Int := ((l.drop (k * p)).take p).sum
/-- How many chunks. -/
def ckN (len p : Nat) : Nat := (len + p - 1) / p
def ckAll (l : List Int) (p : Nat) (k : Nat) : List Int := (List.range k).map (ckSum l p)

def planner_sizes.f (l0_0 : List Int) (l0_1 : List Int) (a0_2 a0_3 a0_4 : Int) : Option (List Int) :=
  if l0_0.length ≤ 4096 ∧ (l0_0.all fun x => decide (0 ≤ x) && decide (x ≤ 4096)) = true ∧ 1 ≤ a0_2 ∧ a0_2 ≤ 4096 then some (ckAll l0_0 a0_2.toNat (ckN l0_0.length a0_2.toNat)) else none

theorem ckN_ok (len p : Nat) (hp : 1 ≤ p) : len ≤ ckN len p * p ∧ (ckN len p ≠ 0 → (ckN len p - 1) * p < len) := by
  unfold ckN
  constructor
  · have h1 := Nat.div_add_mod (len + p - 1) p
    have h2 := Nat.mod_lt (len + p - 1) hp
    rw [Nat.mul_comm] at h1
    generalize (len + p - 1) / p * p = z at h1 ⊢
    generalize (len + p - 1) % p = y at h1 h2
    omega
  · intro h
    have h1 : (len + p - 1) / p * p ≤ len + p - 1 := Nat.div_mul_le_self _ _
    have h2 : p ≤ (len + p - 1) / p * p := Nat.le_mul_of_pos_left p (Nat.pos_of_ne_zero h)
    rw [Nat.sub_mul, Nat.one_mul]
    generalize (len + p - 1) / p * p = z at h1 h2 ⊢
    have h3 : 0 < len := by
      rcases Nat.eq_zero_or_pos len with e | e
      · subst e; exact absurd (Nat.div_eq_of_lt (show 0 + p - 1 < p by omega)) h
      · exact e
    omega

theorem ckPart (l : List Int) (p x i : Nat) (hi : i < chk l.length p x) : ((l.drop (x * p)).take p).take (i + 1) = ((l.drop (x * p)).take p).take i ++ [rd l ((x * p + i : Nat) : Int)] := by
  have h1 : i < ((l.drop (x * p)).take p).length := by rw [List.length_take, List.length_drop]; exact hi
  have h2 : x * p + i < l.length := by unfold chk at hi; omega
  rw [List.take_succ_eq_append_getElem h1]
  congr 2
  rw [List.getElem_take, List.getElem_drop]
  simp only [rd, Int.toNat_natCast, List.getD_eq_getElem?_getD, List.getElem?_eq_getElem h2, Option.getD_some]
theorem ckLen (l : List Int) (p x : Nat) : ((l.drop (x * p)).take p).length = chk l.length p x := by rw [List.length_take, List.length_drop]; rfl
theorem sum_bd (l : List Int) (h : ∀ x ∈ l, 0 ≤ x ∧ x ≤ 4096) : 0 ≤ l.sum ∧ l.sum ≤ 4096 * (l.length : Int) := by
  induction l with
  | nil => simp
  | cons a r ih =>
    have h1 := h a (List.mem_cons_self ..)
    have h2 := ih (fun x hx => h x (List.mem_cons_of_mem _ hx))
    rw [List.sum_cons, List.length_cons]
    omega
theorem part_bd (l : List Int) (p x i : Nat) (hl : l.length ≤ 4096) (h : ∀ x ∈ l, 0 ≤ x ∧ x ≤ 4096) : 0 ≤ (((l.drop (x * p)).take p).take i).sum ∧ (((l.drop (x * p)).take p).take i).sum ≤ 16777216 := by
  have h1 := sum_bd (((l.drop (x * p)).take p).take i) (fun y hy => h y (List.mem_of_mem_drop (List.mem_of_mem_take (List.mem_of_mem_take hy))))
  have h2 : (((l.drop (x * p)).take p).take i).length ≤ 4096 := by rw [List.length_take, List.length_take, List.length_drop]; omega
  omega
theorem ckAll_snoc (l : List Int) (p k : Nat) : ckAll l p (k + 1) = ckAll l p k ++ [ckSum l p k] := by simp [ckAll, List.range_succ]

set_option maxRecDepth 100000 in
set_option maxHeartbeats 4000000 in
theorem sizes_in (F : Fence) (n : Nat) (h55 : F.fn 55) (h69 : F.fn 69) (h73 : F.fn 73) (hro : F.round = none) (hn : 4 ≤ n)
    (A : Option Addr) (c : Nat) (l : List Int) (v1 : Value) (p : Nat) (q3 q4 : Int) (w : World) (hr : Kd.C (Kd.int .i64) w A l.length l) (hc : l.length ≤ c) (hl : l.length ≤ 4096) (hx : ∀ x ∈ l, 0 ≤ x ∧ x ≤ 4096) (hp : 1 ≤ p) (hp2 : p ≤ 4096) :
    CallsIn F n Try.prog 55 #[.agg #[.slice A l.length c, v1, .int .i64 (p : Int), .int .i64 q3, .int .i64 q4]] w fun e W' =>
      ∃ v, e = .returned v ∧ W'.ownsRow w.heap.size 3 1 v (ckAll l p (ckN l.length p)).length ((ckAll l p (ckN l.length p)).map (Value.int .i64)) ∧ Below w.heap.size w W' := by
  have h1 : 1 ≤ n := by omega
  obtain ⟨i0, hi, hz0, hz1, hz2⟩ := info_parts info3
  refine callsIn_of_wp_marks Try.func55 rfl h55 ?_ hro
  simp only [Try.ntmps55, List.size_toArray, List.length_cons, List.length_nil, Nat.reduceAdd, Nat.reduceSub, Array.replicate_succ, Array.replicate_zero, List.push_toArray, List.append_toArray, List.nil_append, List.cons_append]
  gi_wp2_with (gi_at_call 69; refine (Chunk_in F (n - 1) h69 hro _ _ _ _ (by omega) _).mono ?_; rintro e w' ⟨rfl, rfl⟩)
  obtain ⟨ad, hA⟩ : ∃ ad, 0 < l.length → A = some ad := by
    rcases Nat.eq_zero_or_pos l.length with e | e
    · exact ⟨⟨0, 0, none⟩, fun h => by omega⟩
    · obtain ⟨ad, h, _⟩ := Kd.at_int hr 0 (by omega) (by omega)
      exact ⟨ad, fun _ => h⟩
  have HR := Aside0.mk hr
  have HX := Aside0.mk hx
  clear hr hx
  have bO := Boxed.new (w.alloc (.cells #[.slice A l.length c, v1, .int .i64 (p : Int), .int .i64 q3, .int .i64 q4] 24)) 22 (.slice none 0 0)
  rw [World.size_alloc] at bO
  have bS := Boxed.new ((w.alloc (.cells #[.slice A l.length c, v1, .int .i64 (p : Int), .int .i64 q3, .int .i64 q4] 24)).alloc (.cells #[.slice none 0 0] 22)) 22 (.slice A l.length c)
  rw [World.size_alloc, World.size_alloc] at bS
  have bN := Boxed.new (((w.alloc (.cells #[.slice A l.length c, v1, .int .i64 (p : Int), .int .i64 q3, .int .i64 q4] 24)).alloc (.cells #[.slice none 0 0] 22)).alloc (.cells #[.slice A l.length c] 22)) 3 (.int .i64 p)
  rw [World.size_alloc, World.size_alloc, World.size_alloc] at bN
  have hB0 : Below w.heap.size w ((((w.alloc (.cells #[.slice A l.length c, v1, .int .i64 (p : Int), .int .i64 q3, .int .i64 q4] 24)).alloc (.cells #[.slice none 0 0] 22)).alloc (.cells #[.slice A l.length c] 22)).alloc (.cells #[.int .i64 p] 3)) := by
    repeat (first | exact Below.refl _ _ | apply below_alloc)
  refine wpIn_rangeFunc_ownG hro h1 (gf := 73) (lb := #[.pointer (some ⟨w.heap.size + 1 + 1, 0, none⟩), .pointer (some ⟨w.heap.size + 1 + 1 + 1, 0, none⟩)]) rfl h73 (enters_of Try.func73 (by kernel_rfl) rfl)
    (chunk_stops F (n - 1) h73 hro (by omega) (w.heap.size + 1 + 1) A ad l.length c p (ckN l.length p) hA hp (by omega) (by omega) hc (ckN_ok _ _ hp) _ (by simp) (bS.alloc _).cell bN.cell) KB.trans (fun W l o o' hl _ _ _ => by
      have hl2 : w.heap.size + 1 + 1 + 1 + 1 ≤ l := by simpa using hl
      exact ⟨World.putObj_heap_other (by omega), World.putObj_heap_other (by omega)⟩) (Below.refl _ _) (fun _ => rfl)
    (fun (pre : List Nat) W => (∃ v, Boxed W (w.heap.size + 1) 22 v ∧ W.ownsRow (w.heap.size + 1 + 1 + 1 + 1) 3 1 v (pre.map (ckSum l p)).length ((pre.map (ckSum l p)).map (Value.int .i64)) ∧ True) ∧ Below w.heap.size ((((w.alloc (.cells #[.slice A l.length c, v1, .int .i64 (p : Int), .int .i64 q3, .int .i64 q4] 24)).alloc (.cells #[.slice none 0 0] 22)).alloc (.cells #[.slice A l.length c] 22)).alloc (.cells #[.int .i64 p] 3)) W)
    (fun _ _ _ => False)
    (OwnFrom.and (Own.from (holdsRow_own (w.heap.size + 1 + 1 + 1 + 1) (w.heap.size + 1) 22 3 1 (fun (pre : List Nat) => (pre.map (ckSum l p)).length) (fun (pre : List Nat) => (pre.map (ckSum l p)).map (Value.int .i64)) (fun (pre : List Nat) v => True)) _) (ownFrom_below (by simp; omega) (by simp; omega)))
    (fun _ _ _ _ _ hs _ _ => hs)
    ⟨⟨_, (bO.alloc _).alloc _, World.ownsRow_nil _ _ _ _, trivial⟩, Below.refl _ _⟩
    (fun x => { tmps := #[.agg #[.slice A l.length c, v1, .int .i64 (p : Int), .int .i64 q3, .int .i64 q4], .pointer (some ⟨w.heap.size, 0, none⟩), .slice none 0 0, .pointer (some ⟨w.heap.size + 1, 0, none⟩), .slice (some (ad.add (x * p))) (chk l.length p x) (chk l.length p x), undef, undef, undef, .pointer (some ⟨w.heap.size, 0, none⟩), .slice A l.length c, .pointer (some ⟨w.heap.size, 2, none⟩), .int .i64 p, .func (.func 73) #[] #[.pointer (some ⟨w.heap.size + 1 + 1, 0, none⟩), .pointer (some ⟨w.heap.size + 1 + 1 + 1, 0, none⟩)], .slice (some (ad.add (x * p))) (chk l.length p x) (chk l.length p x), undef, undef, undef, undef, undef, undef, undef, undef, undef, undef, undef, undef, undef, undef, undef], defers := [] }) ?assign ?body ?done ?stop
  case assign =>
    intro l x W K hK
    gi_wp2
    exact hK
  case body =>
    rintro rl pre x W ⟨⟨v, hv, hrow, _⟩, hB⟩ hlt
    have hcv := hv.cell
    have hlen : (pre.map (ckSum l p)).length = pre.length := List.length_map _
    have hml : pre.length ≤ 8192 := by
      have : ckN l.length p ≤ 8192 := by unfold ckN; exact Nat.le_trans (Nat.div_le_self _ _) (by omega)
      omega
    have HL := Aside0.mk hlen
    have hce : chk l.length p x ≤ 4096 := by unfold chk; omega
    have HV := Aside0.mk hv
    have HRW := Aside0.mk hrow
    have HBB := Aside0.mk (hB0.trans hB)
    have HSZ := Aside0.mk (show w.heap.size + 1 + 1 + 1 + 1 ≤ W.heap.size from by have := hB.size; simpa using this)
    have HB1 := Aside0.mk hB
    clear hlen hv hrow hB
    gi_wp2
    gi_loop [5, 16] (fun s i => ∃ k : Nat, k ≤ chk l.length p x ∧ i = .int .i64 k ∧ s = .int .i64 (((l.drop (x * p)).take p).take k).sum) (fun _ i => chk l.length p x - (intOf i).toNat)
    case atStart => exact ⟨0, Nat.zero_le _, rfl, by simp⟩
    case round =>
      obtain ⟨k, hk, rfl, rfl⟩ := hrel
      by_cases hlt2 : k < chk l.length p x
      · have hxk : x * p + k < l.length := by unfold chk at hlt2; omega
        obtain rfl := hA (by omega)
        have hcell : W.cell? ((ad.add (x * p)).add k) = some (.int .i64 (rd l ((x * p + k : Nat) : Int))) := by
          obtain ⟨ad', e, h⟩ := Kd.at_int (Kd.C_below HR.out HBB.out) ((x * p + k : Nat) : Int) (by omega) (by omega)
          obtain rfl := Option.some.inj e
          rw [Addr.add_add]
          exact h
        have hps := part_bd l p x k hl HX.out
        have hps2 := part_bd l p x (k + 1) hl HX.out
        have hst := ckPart l p x k hlt2
        have hsum : (((l.drop (x * p)).take p).take k).sum + rd l ((x * p + k : Nat) : Int) = (((l.drop (x * p)).take p).take (k + 1)).sum := by rw [hst]; simp
        have hw : wrap64 ((((l.drop (x * p)).take p).take k).sum + rd l ((x * p + k : Nat) : Int)) = (((l.drop (x * p)).take p).take (k + 1)).sum := by
          rw [hsum]; unfold wrap64; omega
        have HW := Aside0.mk hw
        generalize rd l ((x * p + k : Nat) : Int) = y at hcell HW
        have hq : decide ((k : Int) < (chk l.length p x : Int)) = true := decide_eq_true (by omega)
        clear hps hps2 hst hsum hw hlt
        gi_wp2
        go_round
        case rel => exact ⟨k + 1, by omega, by go_num, by rw [← HW.out]⟩
        case measure => simp [intOf]; omega
      · have hke : k = chk l.length p x := by omega
        have HK := Aside0.mk hke
        have hq : decide (k < chk l.length p x) = false := decide_eq_false hlt2
        have hsum : (((l.drop (x * p)).take p).take k).sum = ckSum l p x := by
          unfold ckSum
          rw [hke, ← ckLen l p x, List.take_length]
        rw [hsum]
        clear hke hsum hk hlt2
        have hlen2 := Aside0.mk (show (pre.map (ckSum l p)).length + 1 ≤ maxLen ∧ ((pre.map (ckSum l p)).length + 1) * 8 ≤ 140737488355328 from by rw [HL.out]; unfold maxLen; omega)
        gi_wp2_with (gi_at_builtin; refine wpListIn_append_own _ rfl _ _ 22 rfl (w.heap.size + 1 + 1 + 1 + 1) 3 i0 (.int .i64 0) 1 8 Try.underlying22 hi hz0 hz1 hz2 rfl (by decide) _ _ _ rfl (HRW.out.alloc _) ⟨W.heap.size, 0, none⟩ 1 1 [.int .i64 (ckSum l p x)] rfl rfl (cell_one_new _ _ _) (by simp [Value.oneCell']) hlen2.out.1 hlen2.out.2 (by have := HSZ.out; simp; omega) ?_; intro v' w1 hown' hgrow _; obtain ⟨g', cap', rfl⟩ := ownsRow_succ hown'; obtain ⟨hv1, hv2, hr2, hk2, hb2⟩ := HV.out.appended (by decide) (own_weaken HRW.out (show w.heap.size ≤ w.heap.size + 1 + 1 + 1 + 1 by omega)) HBB.out.size (Nat.le_succ _) (own_weaken hown' (show w.heap.size ≤ w.heap.size + 1 + 1 + 1 + 1 by omega)) hgrow; have HON := Aside0.mk hown'; have HGR := Aside0.mk hgrow; have hc1 := hv1.cell; have hf1 := hv1.frozen)
        have hbase : ∀ k, v.ownBlock = some k → w.heap.size + 1 + 1 + 1 + 1 ≤ k := own_base HRW.out
        have hkb : ∀ k, k < w.heap.size + 1 + 1 + 1 + 1 → k ≠ w.heap.size + 1 → (w1.setCell ⟨w.heap.size + 1, 0, none⟩ (.slice (some ⟨g', 0, none⟩) ((pre.map (ckSum l p)).length + 1) cap')).heap[k]? = W.heap[k]? := by
          intro k hk hne
          rw [Below.heap_setCell _ _ _ _ hne, HGR.out.block k (by have := HSZ.out; simp; omega) (fun e => by have := hbase k e.symm; omega)]
          exact Below.heap_alloc _ _ _ (by have := HSZ.out; omega)
        have hrow4 := HON.out.kept (grownBy_setCell' w1 (w.heap.size + 1) (.slice (some ⟨g', 0, none⟩) ((pre.map (ckSum l p)).length + 1) cap')) (.inr (hv1.not_row (by decide) HON.out).symm)
        have el := HL.out
        rw [el] at hv2 hk2 hb2 hkb
        have e2 : (pre.map (ckSum l p)).map (Value.int .i64) ++ [.int .i64 (ckSum l p x)] = ((pre ++ [x]).map (ckSum l p)).map (Value.int .i64) := by simp
        have e3 : (pre.map (ckSum l p)).length + 1 = ((pre ++ [x]).map (ckSum l p)).length := by simp
        rw [e2, e3, show ((pre ++ [x]).map (ckSum l p)).length = pre.length + 1 from by simp] at hrow4
        refine ⟨hk2.from _, ⟨hkb _ (by omega) (by omega), hkb _ (by omega) (by omega)⟩, ⟨_, hv2, ?_⟩, HB1.out.trans hb2⟩
        have e4 : (pre ++ [x]).length = pre.length + 1 := by simp
        rw [e4]
        simpa using hrow4
  case done =>
    rintro D ys W hD rfl ⟨⟨v, hv, hrow, _⟩, hB⟩ hK
    have hc := hv.cell
    gi_wp2
    refine ⟨by simp, .inl ⟨_, _, rfl, run_takeDeferred hK, ?_⟩⟩
    exact ⟨_, results_tmp rfl _ _ _, v, rfl, own_weaken (ownsRow_putObj hrow _ hK rfl) (by omega), (hB0.trans hB).trans (belowK_b (w := w) (Nat.le_refl _) W D _ _ (by simp at hD; omega) hK rfl rfl)⟩
  case stop =>
    rintro D c pre W _ _ h _
    exact h.elim

theorem planner_sizes.calls (A0_0 : Option Addr) (c0_0 : Nat) (l0_0 : List Int) (A0_1 : Option Addr) (c0_1 : Nat) (l0_1 : List Int) (a0_2 : Int) (a0_3 : Int) (a0_4 : Int) (r : List Int) (w : World) (hr0_0 : Kd.C (Kd.int .i64) w A0_0 l0_0.length l0_0) (hc0_0 : l0_0.length ≤ c0_0) (hr0_1 : Kd.C (Kd.int .i64) w A0_1 l0_1.length l0_1) (hc0_1 : l0_1.length ≤ c0_1) (h : planner_sizes.f l0_0 l0_1 a0_2 a0_3 a0_4 = some r) :
    Calls Try.prog 55 #[.agg #[.slice A0_0 l0_0.length c0_0, .slice A0_1 l0_1.length c0_1, .int .i64 a0_2, .int .i64 a0_3, .int .i64 a0_4]] w fun e w' => ∃ v0_ : Value, e = .returned v0_ ∧ Kd.R (Kd.int .i64) 3 w' w.heap.size (fun _ => True) v0_ r ∧ Below w.heap.size w w' := by
  unfold planner_sizes.f at h
  split at h
  · rename_i hc
    obtain ⟨h1, h2, h3, h4⟩ := hc
    obtain rfl := Option.some.inj h
    obtain ⟨p, rfl⟩ := Int.eq_ofNat_of_zero_le (show 0 ≤ a0_2 by omega)
    rw [List.all_eq_true] at h2
    refine (callsIn_wide.1 (sizes_in Fence.wide 4 trivial trivial trivial rfl (by omega) A0_0 c0_0 l0_0 _ p a0_3 a0_4 w hr0_0 hc0_0 h1 (fun x hx => by simpa using h2 x hx) (by omega) (by omega))).mono ?_
    rintro e w' ⟨v, rfl, hown, hb⟩
    exact ⟨v, rfl, Kd.R_of_own (h1 := fun _ => rfl) hown (fun _ _ => trivial), hb⟩
  · cases h
end Go.Proofs.Ytcflacjidabppaa.Pr

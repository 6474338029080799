/- planner.Rate: a binary search over a computed predicate. -/
import Derived.Test.YtcflacjidabppaaGKeeps
import Derived.Test.YtcflacjidabppaaGSearch
import Derived.Test.YtcflacjidabppaaGFn
namespace Go.Proofs.Ytcflacjidabppaa.Pr
open Go.RowKit Go.Proofs.YtcflacjidabppaaW.PrintWords Go.Proofs.YtcflacjidabppaaW.PrintLast Go.Proofs.YtcflacjidabppaaW.PrintMore
set_option linter.unusedVariables false
set_option linter.unusedSimpArgs false
attribute [local go_sem] max2_int min2_int max_two min_two max_three min_three max_four min_four

/-- sort.Search, with the predicate as a partial function. -/
def srchO (p : Int → Option Bool) : Nat → Int → Int → Option Int
  | 0, i, j => if i < j then none else some i
  | n + 1, i, j => if i < j then (p ((i + j) / 2)).bind fun b => if b = true then srchO p n i ((i + j) / 2) else srchO p n ((i + j) / 2 + 1) j else some i
theorem srchO_mono {p p' : Int → Option Bool} (h : ∀ x, LeO (p x) (p' x)) : ∀ n i j, LeO (srchO p n i j) (srchO p' n i j) := by
  intro n
  induction n with
  | zero => intro i j; exact LeO.refl _
  | succ n ih =>
    intro i j
    unfold srchO
    exact LeO.ite (LeO.bind (h _) (fun b => LeO.ite (ih _ _) (ih _ _))) (LeO.refl _)

def PredO (D : World → World → Prop) (g : Nat) (caps : Array Value) (p : Int → Option Bool) (n : Int) (w : World) : Prop :=
  ∀ (x : Int) (b : Bool) (W : World), 0 ≤ x → x < n → p x = some b → D w W → Calls Try.prog g (#[.int .i64 x] ++ caps) W fun e w' => e = .returned (.bool b) ∧ D W w'

set_option maxRecDepth 100000 in
theorem Search_callsO (D : World → World → Prop) (hD0 : ∀ w, D w w) (hDt : ∀ a b c, D a b → D b c → D a c) (g : Nat) (caps : Array Value) (p : Int → Option Bool) (n r : Int) (fuel : Nat) (w : World)
    (hn0 : 0 ≤ n) (hn : n ≤ 4611686018427387904) (eg : ∀ args w, (callFunc g args).run Try.prog w = .ok (.enter g args) w) (hg : PredO D g caps p n w) (h : srchO p fuel 0 n = some r) :
    Calls Try.prog 43 #[.int .i64 n, .func (.func g) #[] caps] w fun e w' => e = .returned (.int .i64 r) ∧ D w w' := by
  have HG := Aside0.mk hg
  have HD0 := Aside0.mk hD0
  have HDt := Aside0.mk hDt
  have HH := Aside0.mk h
  clear hg hD0 hDt h
  go_enter Try.func43, Try.ntmps43
  go_wp2
  go_loopw [5, 6] (fun a b wr => ∃ i j : Int, a = .int .i64 i ∧ b = .int .i64 j ∧ Aside0 (∃ m, srchO p m i j = some r) ∧ Aside0 (0 ≤ i ∧ j ≤ n) ∧ Aside0 (D w wr)) (fun a b _ => (intOf b - intOf a).toNat)
  case atStart => exact ⟨0, n, rfl, rfl, ⟨fuel, HH.out⟩, ⟨by omega⟩, ⟨HD0.out w⟩⟩
  case round =>
    obtain ⟨i, j, rfl, rfl, hs, hi, hd⟩ := hrel
    by_cases hlt : i < j
    · go_wp2_with fail
      have hmid := search_mid i j (by have := hi.out; omega) hlt (by have := hi.out; omega)
      rw [hmid]
      obtain ⟨m, hm⟩ : ∃ m, Aside0 (m = (i + j) / 2) := ⟨_, ⟨rfl⟩⟩
      rw [← hm.out]
      clear hmid
      have hm2 := Aside0.mk (show i ≤ m ∧ m < j from by have := hm.out; omega)
      obtain ⟨b, hb⟩ : ∃ b, Aside0 (p m = some b ∧ ∃ f, (if b = true then srchO p f i m else srchO p f (m + 1) j) = some r) := by
        obtain ⟨f, hf⟩ := hs.out
        cases f with
        | zero => unfold srchO at hf; rw [if_pos hlt] at hf; cases hf
        | succ f =>
          unfold srchO at hf
          rw [if_pos hlt, ← hm.out] at hf
          obtain ⟨b, e1, e2⟩ := Option.bind_eq_some_iff.1 hf
          exact ⟨b, ⟨e1, f, e2⟩⟩
      refine (HG.out m b _ (by have := hm2.out; have := hi.out; omega) (by have := hm2.out; have := hi.out; omega) hb.out.1 hd.out).mono ?_
      rintro e w1 ⟨rfl, hd1⟩
      have hd2 := Aside0.mk (HDt.out _ _ _ hd.out hd1)
      clear hd1
      cases b with
      | true =>
        have HS2 : Aside0 (∃ f, srchO p f i m = some r) := ⟨by obtain ⟨f, hf⟩ := hb.out.2; exact ⟨f, by simpa using hf⟩⟩
        clear hlt
        go_wp2
        go_roundw
        case rel => exact ⟨i, m, rfl, rfl, HS2, ⟨by have := hi.out; have := hm2.out; omega⟩, hd2⟩
        case measure => have := hm2.out; simp [intOf]; omega
      | false =>
        have HS2 : Aside0 (∃ f, srchO p f (m + 1) j = some r) := ⟨by obtain ⟨f, hf⟩ := hb.out.2; exact ⟨f, by simpa using hf⟩⟩
        have hw : wrap64 (m + 1) = m + 1 := by have := hi.out; have := hm2.out; unfold wrap64; omega
        clear hlt
        go_wp2
        go_roundw
        case rel => exact ⟨m + 1, j, by rw [hw], rfl, HS2, ⟨by have := hi.out; have := hm2.out; omega⟩, hd2⟩
        case measure => have := hm2.out; simp [intOf, hw]; omega
    · have e : Aside0 (i = r) := ⟨by
        obtain ⟨f, hf⟩ := hs.out
        cases f with
        | zero => unfold srchO at hf; rw [if_neg hlt] at hf; exact Option.some.inj hf
        | succ f => unfold srchO at hf; rw [if_neg hlt] at hf; exact Option.some.inj hf⟩
      go_wp2
      go_ret
      exact ⟨by rw [← e.out]; rfl, hd.out⟩

/-- Does the rate i + 1 keep the objective. -/
def keepsV (k : Nat) (l0 : List Int) (p q r obj : Int) (i : Int) : Option Bool :=
  (planner_plan.f k l0 [1] p q r 0 (sumsOf [i + 1]) (i + 1)).map fun t => decide (t.2.2.2.2.2 = 0 ∧ t.2.2.2.2.1 ≤ obj)

def BelowD (a b : World) : Prop := Below a.heap.size a b
theorem belowD_then (a b c : World) (h : BelowD a b) (k : BelowD b c) : BelowD a c := below_then h h.size k

set_option maxRecDepth 100000 in
theorem rate_pred (k : Nat) (A0 : Option Addr) (c0 : Nat) (l0 : List Int) (A1 : Option Addr) (c1 : Nat) (p q r obj : Int) (tb ob fb : Nat) (w : World)
    (hr0 : Kd.C (Kd.int .i64) w A0 l0.length l0) (hc0 : l0.length ≤ c0) (hr1 : Kd.C (Kd.int .i64) w A1 1 [1]) (hc1 : 1 ≤ c1)
    (htb : w.heap[tb]? = some (.cells #[.slice A0 l0.length c0, .slice A1 1 c1, .int .i64 p, .int .i64 q, .int .i64 r] 24 (0, 0))) (hob : w.heap[ob]? = some (.cells #[.int .i64 obj] 3 (0, 0)))
    (hfb : w.heap[fb]? = some (.cells #[.func (.func 48) #[] #[.pointer (some ⟨tb, 0, none⟩), .pointer (some ⟨ob, 0, none⟩)]] 74 (0, 0))) :
    PredO BelowD 49 #[.pointer (some ⟨fb, 0, none⟩)] (keepsV k l0 p q r obj) 4096 w := by
  intro x b W hx0 hx1 hp hd
  unfold keepsV at hp
  obtain ⟨⟨r1, r2, r3, r4, r5, r6⟩, h1, h2⟩ := Option.map_eq_some_iff.1 hp
  have HK := Aside0.mk (keeps_calls k A0 c0 l0 A1 c1 [1] p q r (x + 1) obj r1 r2 r3 r4 r5 r6 tb ob W.drew (Kd.C_below hr0 (below_drew hd)) hc0 (Kd.C_below hr1 (below_drew hd)) hc1 (blk_below htb (below_drew hd)) (blk_below hob (below_drew hd)) (by omega) h1)
  have HK2 := Aside0.mk (keeps_calls k A0 c0 l0 A1 c1 [1] p q r (x + 1) obj r1 r2 r3 r4 r5 r6 tb ob W (Kd.C_below hr0 hd) hc0 (Kd.C_below hr1 hd) hc1 (blk_below htb hd) (blk_below hob hd) (by omega) h1)
  have H2 := Aside0.mk h2
  have hf : W.cell? ⟨fb, 0, none⟩ = some (.func (.func 48) #[] #[.pointer (some ⟨tb, 0, none⟩), .pointer (some ⟨ob, 0, none⟩)]) := (blk_cell (blk_below hfb hd) 0).trans rfl
  have hw : wrap64 (x + 1) = x + 1 := by unfold wrap64; omega
  clear hr0 hr1 htb hob hfb hd hx0 hx1 hp h1 h2
  show Calls _ _ #[.int .i64 x, .pointer (some ⟨fb, 0, none⟩)] _ _
  go_enter Try.func49, Try.ntmps49
  go_wp2_with fail
  refine HK2.out.mono ?_
  rintro e w1 ⟨rfl, hb⟩
  go_wp2
  go_ret
  exact ⟨by rw [← H2.out]; simp, hb⟩

def planner_Rate.f (k : Nat) (l0_0 : List Int) (l0_1 : List Int) (a0_2 : Int) (a0_3 : Int) (a0_4 : Int) (a1 : Int) : Option (Int × Int) :=
  if 0 ≤ a1 ∧ a1 ≤ 1073741824 then (planner_Check.f k l0_0 [1] a0_2 a0_3 a0_4).bind fun e =>
    if e = 0 then (srchO (keepsV k l0_0 a0_2 a0_3 a0_4 a1) 64 0 4096).bind fun r => if 0 ≤ r ∧ r < 4096 then some (1 + r, 0) else if r = 4096 then some (0, 21) else none
    else some (0, e)
  else some (0, 2)
theorem planner_Rate.mono : ∀ a0 a1 a2 a3 a4 a5 k, LeO (planner_Rate.f k a0 a1 a2 a3 a4 a5) (planner_Rate.f (k + 1) a0 a1 a2 a3 a4 a5) := by
  intro a0 a1 a2 a3 a4 a5 k
  unfold planner_Rate.f
  refine LeO.ite (LeO.bind (planner_Check.mono _ _ _ _ _ _) (fun t => LeO.ite (LeO.bind (srchO_mono (fun x => ?_) _ _ _) (fun r => LeO.refl _)) (LeO.refl _))) (LeO.refl _)
  exact LeO.map _ (planner_plan.mono _ _ _ _ _ _ _ _ _)

theorem below_one {w W : World} {B : Nat} (h : Below w.heap.size w W) (hB : w.heap.size ≤ B) (j : Nat) (u : Value) : Below w.heap.size w (W.setCell ⟨B, j, none⟩ u) := h.setCell (p := ⟨B, j, none⟩) hB u
theorem lit_far (W : World) (x : Int) (e B j : Nat) (u : Value) (hB : B < W.heap.size) : Kd.C (Kd.int .i64) ((W.alloc (.cells #[.int .i64 x] e (0, 0))).setCell ⟨B, j, none⟩ u) (some ⟨W.heap.size, 0, none⟩) 1 [x] := by
  have h0 := own_lit W W.heap.size e .i64 [x] (Nat.le_refl _) (by simp)
  have h1 : (Kd.int .i64).R e (W.alloc (.cells #[.int .i64 x] e)) W.heap.size (fun k => k ≠ B) (.slice (some ⟨W.heap.size, 0, none⟩) 1 1) [x] := Kd.R_of_own (h1 := fun _ => rfl) (xs := [x]) h0 (fun k hk => by simp [Value.ownBlock] at hk; omega)
  exact (Kd.R_reads' (Kd.R_far (p := ⟨B, j, none⟩) h1 (fun k hk => hk) u)).2.2

set_option maxHeartbeats 4000000 in
set_option maxRecDepth 100000 in
theorem planner_Rate.calls (k : Nat) (A0_0 : Option Addr) (c0_0 : Nat) (l0_0 : List Int) (A0_1 : Option Addr) (c0_1 : Nat) (l0_1 : List Int) (a0_2 : Int) (a0_3 : Int) (a0_4 : Int) (a1 : Int) (r1 : Int) (r2 : Int) (w : World) (hr0_0 : Kd.C (Kd.int .i64) w A0_0 l0_0.length l0_0) (hc0_0 : l0_0.length ≤ c0_0) (hr0_1 : Kd.C (Kd.int .i64) w A0_1 l0_1.length l0_1) (hc0_1 : l0_1.length ≤ c0_1) (h : planner_Rate.f k l0_0 l0_1 a0_2 a0_3 a0_4 a1 = some (r1, r2)) :
    Calls Try.prog 29 #[.agg #[.slice A0_0 l0_0.length c0_0, .slice A0_1 l0_1.length c0_1, .int .i64 a0_2, .int .i64 a0_3, .int .i64 a0_4], .int .i64 a1] w fun e w' => e = .returned (.tuple #[.int .i64 r1, .int .i64 r2]) ∧ Below w.heap.size w w' := by
  unfold planner_Rate.f at h
  have hmf : ∀ (fn : Fn) (first cap : Array Value) (w : World), (Instr.makeFunc fn first cap).run Try.prog w = .ok (.func fn first cap) w := fun _ _ _ _ => rfl
  have HR0 := Aside0.mk hr0_0
  have HR1 := Aside0.mk hr0_1
  clear hr0_0 hr0_1
  by_cases hn : 0 ≤ a1 ∧ a1 ≤ 1073741824
  · rw [if_pos hn] at h
    have HBT := Aside0.mk (show planner_between.f a1 0 1073741824 = some true from by unfold planner_between.f; rw [if_pos (by omega), decide_eq_true hn.2])
    obtain ⟨e, he, h⟩ := Option.bind_eq_some_iff.1 h
    have HE := Aside0.mk he
    have HH := Aside0.mk h
    clear hn he h
    go_enter Try.func29, Try.ntmps29
    go_wp2_with fail
    refine (planner_between.calls a1 0 1073741824 true _ HBT.out).mono ?_
    rintro e2 w2 ⟨rfl, hd⟩
    have hb0 : Below w.heap.size w w2 := Below.trans (by repeat (first | exact Below.refl _ _ | apply below_alloc)) (hd.below.mono (by simp; omega))
    have hbt := blk_below (g := w.heap.size) (o := .cells #[.slice A0_0 l0_0.length c0_0, .slice A0_1 l0_1.length c0_1, .int .i64 a0_2, .int .i64 a0_3, .int .i64 a0_4] 24 (0, 0)) (blk_alloc (heap_alloc_new w _) _) hd.below
    have hbo := blk_below (g := w.heap.size + 1) (o := .cells #[.int .i64 a1] 3 (0, 0)) (by have := heap_alloc_new (w.alloc (.cells #[.slice A0_0 l0_0.length c0_0, .slice A0_1 l0_1.length c0_1, .int .i64 a0_2, .int .i64 a0_3, .int .i64 a0_4] 24)) (.cells #[.int .i64 a1] 3); rw [World.size_alloc] at this; exact this) hd.below
    have HSZ := Aside0.mk (show w.heap.size + 2 ≤ w2.heap.size from by have := hd.below.size; simpa using this)
    have HB2 := Aside0.mk hb0
    have BT := Aside0.mk hbt
    have BO := Aside0.mk hbo
    have t0 := (blk_cell hbt 0).trans rfl
    have t1 := (blk_cell hbt 1).trans rfl
    have t2 := (blk_cell hbt 2).trans rfl
    have t3 := (blk_cell hbt 3).trans rfl
    have t4 := (blk_cell hbt 4).trans rfl
    have y1 := blk_frozen (blk_alloc hbt (.cells #[.int .i64 1] 3 (0, 0))) 1
    have y2 := (blk_cell (blk_alloc hbt (.cells #[.int .i64 1] 3 (0, 0))) 1).trans rfl
    clear hd hb0 hbt hbo
    go_upto_region 4 with (fail)
    refine name_world ?_
    intro W3 hW3
    have hbt3 : W3.heap[w.heap.size]? = some (.cells #[.slice A0_0 l0_0.length c0_0, .slice (some ⟨w2.heap.size, 0, none⟩) 1 1, .int .i64 a0_2, .int .i64 a0_3, .int .i64 a0_4] 24 (0, 0)) := by rw [← hW3.out]; exact blk_put (blk_alloc BT.out _) 1 _ rfl
    have hbo3 : W3.heap[w.heap.size + 1]? = some (.cells #[.int .i64 a1] 3 (0, 0)) := by rw [← hW3.out]; exact blk_far (blk_alloc BO.out _) (by simp) _
    have hb3 : Below w.heap.size w W3 := by rw [← hW3.out]; exact below_one (below_alloc HB2.out _) (Nat.le_refl _) _ _
    have hone : Kd.C (Kd.int .i64) W3 (some ⟨w2.heap.size, 0, none⟩) 1 [1] := by rw [← hW3.out]; exact lit_far _ _ _ _ _ _ (by have := HSZ.out; omega)
    have HSZ3 := Aside0.mk (show w.heap.size + 2 ≤ W3.heap.size from by rw [← hW3.out]; have := HSZ.out; simp [World.setCell]; omega)
    have HB3 := Aside0.mk hb3
    have BT3 := Aside0.mk hbt3
    have BO3 := Aside0.mk hbo3
    have HC3 := Aside0.mk hone
    clear hW3 t0 t1 t2 t3 t4 y1 y2 BT BO
    have t0 := (blk_cell hbt3 0).trans rfl
    have t1 := (blk_cell hbt3 1).trans rfl
    have t2 := (blk_cell hbt3 2).trans rfl
    have t3 := (blk_cell hbt3 3).trans rfl
    have t4 := (blk_cell hbt3 4).trans rfl
    clear hbt3 hbo3 hb3 hone
    go_wp2_with fail
    refine (planner_Check.calls k A0_0 c0_0 l0_0 (some ⟨w2.heap.size, 0, none⟩) 1 [1] a0_2 a0_3 a0_4 e _ (Kd.C_below HR0.out HB3.out) hc0_0 HC3.out (Nat.le_refl 1) HE.out).mono ?_
    rintro e3 w4 ⟨rfl, hb⟩
    have HB4 := Aside0.mk (HB3.out.trans (hb.mono HB3.out.size))
    have BT4 := Aside0.mk (blk_below BT3.out hb)
    have BO4 := Aside0.mk (blk_below BO3.out hb)
    have HC4 := Aside0.mk (Kd.C_below HC3.out hb)
    clear hb t0 t1 t2 t3 t4
    by_cases hz : e = 0
    · subst hz
      obtain ⟨r, hr, h⟩ := Option.bind_eq_some_iff.1 ((if_pos rfl).symm.trans HH.out)
      have HSR := Aside0.mk hr
      have HE2 := Aside0.mk h
      clear hr h HH
      go_upto_region 8 with (fail)
      refine name_world ?_
      intro W5 hW5
      have hbf : W5.heap[w4.heap.size]? = some (.cells #[.func (.func 48) #[] #[.pointer (some ⟨w.heap.size, 0, none⟩), .pointer (some ⟨w.heap.size + 1, 0, none⟩)]] 74 (0, 0)) := by rw [← hW5.out]; exact heap_alloc_new w4 _
      have h45 : Below w4.heap.size w4 W5 := by rw [← hW5.out]; exact below_alloc (Below.refl _ _) _
      have HB5 := Aside0.mk (HB4.out.trans (h45.mono HB4.out.size))
      have HPR := Aside0.mk (rate_pred k A0_0 c0_0 l0_0 (some ⟨w2.heap.size, 0, none⟩) 1 a0_2 a0_3 a0_4 a1 w.heap.size (w.heap.size + 1) w4.heap.size W5 (Kd.C_below HR0.out HB5.out) hc0_0 (Kd.C_below HC4.out h45) (Nat.le_refl 1) (blk_below BT4.out h45) (blk_below BO4.out h45) hbf)
      clear hbf h45 hW5
      go_wp2_with fail
      refine (Search_callsO BelowD (fun w => Below.refl _ w) belowD_then 49 _ _ 4096 r 64 W5 (by decide) (by decide) (enters_of Try.func49 (by kernel_rfl) rfl) HPR.out HSR.out).mono ?_
      rintro e6 w6 ⟨rfl, hb⟩
      have HB6 := Aside0.mk (HB5.out.trans (Below.mono hb HB5.out.size))
      clear hb
      by_cases hlt : 0 ≤ r ∧ r < 4096
      · have h := HE2.out
        rw [if_pos hlt] at h
        have e' := Option.some.inj h
        simp only [Prod.mk.injEq] at e'
        obtain ⟨rfl, rfl⟩ := e'
        have hw : wrap64 (1 + r) = 1 + r := by unfold wrap64; omega
        have hg : decide (1 + r > 4096) = false := decide_eq_false (by omega)
        have hg2 : decide (4096 < 1 + r) = false := decide_eq_false (by omega)
        have HW := Aside0.mk hw
        clear h hlt HE2
        go_wp2
        go_ret2
        exact ⟨congrArg (fun z => Ending.returned (.tuple #[.int .i64 z, .int .i64 0])) HW.out, HB6.out⟩
      · have h := HE2.out
        rw [if_neg hlt] at h
        split at h
        · rename_i hr
          subst hr
          have e' := Option.some.inj h
          simp only [Prod.mk.injEq] at e'
          obtain ⟨rfl, rfl⟩ := e'
          clear h hlt HE2
          go_wp2
          go_ret2
          exact ⟨rfl, HB6.out⟩
        · cases h
    · have h := HH.out
      rw [if_neg hz] at h
      have hz2 : (e != 0) = true := by simpa using hz
      have e' := Option.some.inj h
      simp only [Prod.mk.injEq] at e'
      obtain ⟨rfl, rfl⟩ := e'
      clear h hz HH
      go_wp2
      go_ret2
      exact ⟨rfl, HB4.out⟩
  · rw [if_neg hn] at h
    have e := Option.some.inj h
    simp only [Prod.mk.injEq] at e
    obtain ⟨rfl, rfl⟩ := e
    have HBT := Aside0.mk (show planner_between.f a1 0 1073741824 = some false from by
      unfold planner_between.f
      split
      · rw [decide_eq_false (by omega)]
      · rfl)
    clear h hn
    go_enter Try.func29, Try.ntmps29
    go_wp2_with fail
    refine (planner_between.calls a1 0 1073741824 false _ HBT.out).mono ?_
    rintro e2 w2 ⟨rfl, hd⟩
    have HB2 : Aside0 (Below w.heap.size w w2) := ⟨Below.trans (by repeat (first | exact Below.refl _ _ | apply below_alloc)) (hd.below.mono (by simp; omega))⟩
    clear hd
    go_wp2
    go_ret2
    exact ⟨rfl, HB2.out⟩
end Go.Proofs.Ytcflacjidabppaa.Pr

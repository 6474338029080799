/- planner.sectors, and slices.IndexFunc, slices.ContainsFunc at a predicate that captures nothing. -/
import Derived.Test.YtcflacjidabppaaF40
import Derived.Test.YtcflacjidabppaaGSearch
namespace Go.Proofs.Ytcflacjidabppaa.Pr
open Go.RowKit Go.Proofs.YtcflacjidabppaaW.PrintWords Go.Proofs.YtcflacjidabppaaW.PrintLast Go.Proofs.YtcflacjidabppaaW.PrintMore
set_option linter.unusedVariables false
set_option linter.unusedSimpArgs false

/-- A function value that is called at an int, reads at most, and answers a bool. -/
def PredI (g : Nat) (p : Int → Bool) : Prop := ∀ (x : Int) (w : World), Calls Try.prog g #[.int .i64 x] w fun e w' => e = .returned (.bool (p x)) ∧ Drawn0 w w'

theorem between_some (a b c : Int) : planner_between.f a b c = some (decide (b ≤ a) && decide (a ≤ c)) := by
  unfold planner_between.f
  by_cases h : a ≥ b
  · rw [if_pos h]; simp [show b ≤ a from h]
  · rw [if_neg h]; simp [show ¬ b ≤ a from h]

theorem sec_pred : PredI 59 (fun x => !decide (0 ≤ x) || !decide (x ≤ 4096)) := by
  intro x w
  go_enter Try.func59, Try.ntmps59
  go_wp2_with fail
  refine (planner_between.calls _ _ _ _ _ (between_some x 0 4096)).mono ?_
  rintro e w' ⟨rfl, hd⟩
  go_wp2
  go_ret
  exact ⟨rfl, hd⟩

/-- slices.IndexFunc over a row of ints: the first place at which p holds, -1 if there is none. -/
def idxI (p : Int → Bool) (xs : List Int) : Int := match xs.findIdx? p with | some i => i | none => -1

theorem idxI_yes (p : Int → Bool) (l : List Int) (i : Int) (h0 : 0 ≤ i) (h1 : i < l.length) (hp : ∀ x ∈ l.take i.toNat, p x = false) (hx : p (rd l i) = true) : idxI p l = i := by
  have hn : i.toNat < l.length := by omega
  have e : rd l i = l[i.toNat] := by simp [rd, List.getD_eq_getElem?_getD, List.getElem?_eq_getElem hn]
  have h : l.findIdx? p = some i.toNat := by
    rw [List.findIdx?_eq_some_iff_getElem]
    refine ⟨hn, by rw [← e]; exact hx, fun j hj => ?_⟩
    have := hp (l[j]'(by omega)) (by
      rw [List.mem_take_iff_getElem]
      exact ⟨j, by omega, rfl⟩)
    simp [this]
  unfold idxI
  rw [h]
  show ((i.toNat : Nat) : Int) = i
  omega

theorem idxI_no (p : Int → Bool) (l : List Int) (hp : ∀ x ∈ l, p x = false) : idxI p l = -1 := by
  have h : l.findIdx? p = none := by
    rw [List.findIdx?_eq_none_iff]
    exact fun x hx => by simp [hp x hx]
  unfold idxI
  rw [h]

theorem take_step (p : Int → Bool) (l : List Int) (i : Int) (h0 : 0 ≤ i) (h1 : i < l.length) (hp : ∀ x ∈ l.take i.toNat, p x = false) (hx : p (rd l i) = false) : ∀ x ∈ l.take (i + 1).toNat, p x = false := by
  have hn : i.toNat < l.length := by omega
  have e : rd l i = l[i.toNat] := by simp [rd, List.getD_eq_getElem?_getD, List.getElem?_eq_getElem hn]
  rw [show (i + 1).toNat = i.toNat + 1 from by omega, List.take_succ_eq_append_getElem hn]
  intro x hxm
  rcases List.mem_append.1 hxm with h | h
  · exact hp x h
  · rw [List.mem_singleton.1 h, ← e]; exact hx

set_option maxRecDepth 100000 in
theorem IndexFunc_calls (g : Nat) (p : Int → Bool) (hg : PredI g p) (eg : ∀ args w, (callFunc g args).run Try.prog w = .ok (.enter g args) w) (A : Option Addr) (c : Nat) (l : List Int) (w : World)
    (hr : Kd.C (Kd.int .i64) w A l.length l) (hc : l.length ≤ c) :
    Calls Try.prog 60 #[.slice A l.length c, .func (.func g) #[] #[]] w fun e w' => e = .returned (.int .i64 (idxI p l)) ∧ Drawn0 w w' := by
  have hm : l.length ≤ 9223372036854775807 := Kd.C_max hr
  have HR := Aside0.mk hr
  clear hr
  go_enter Try.func60, Try.ntmps60
  go_wp2
  go_loopw [8] (fun v wr => ∃ i : Int, v = .int .i64 i ∧ Aside0 (0 ≤ i ∧ i ≤ l.length) ∧ Aside0 (∀ x ∈ l.take i.toNat, p x = false) ∧ Aside0 (Drawn0 w wr)) (fun v _ => (l.length - intOf v).toNat)
  case atStart => exact ⟨0, rfl, ⟨by omega⟩, ⟨by simp⟩, ⟨Drawn0.refl w⟩⟩
  case round =>
    obtain ⟨i, rfl, hi, hp, hd⟩ := hrel
    by_cases hlt : i < (l.length : Int)
    · have p1 := hi.out.1
      obtain ⟨ad, rfl, hcell⟩ := Kd.at_int (Kd.C_below HR.out hd.out.below) i p1 hlt
      replace p1 := eq_true p1
      have q1 := decide_eq_true hlt
      replace hlt := eq_true hlt
      go_wp2_with fail
      refine (hg _ _).mono ?_
      rintro e w1 ⟨rfl, hd1⟩
      have hd2 := Aside0.mk (drawn_then hd.out hd1)
      clear hd1
      by_cases hx : p (rd l i) = true
      · have fin := Aside0.mk (idxI_yes p l i (of_eq_true p1) (of_eq_true hlt) hp.out hx)
        rw [hx]
        go_wp2
        go_ret
        exact ⟨by rw [fin.out]; rfl, hd2.out⟩
      · have hx0 : p (rd l i) = false := by simpa using hx
        have fin := Aside0.mk (take_step p l i (of_eq_true p1) (of_eq_true hlt) hp.out hx0)
        have hi2 : Aside0 (0 ≤ i + 1 ∧ i + 1 ≤ l.length) := ⟨by have := of_eq_true p1; omega, by have := of_eq_true hlt; omega⟩
        have hw : wrap64 (i + 1) = i + 1 := by have := of_eq_true p1; have := of_eq_true hlt; unfold wrap64; omega
        rw [hx0]
        clear hx hx0
        go_wp2
        go_roundw
        case rel => exact ⟨i + 1, by rw [hw], hi2, fin, hd2⟩
        case measure => have := of_eq_true p1; have := of_eq_true hlt; simp [intOf, hw]; omega
    · have q1 := decide_eq_false hlt
      have hii := hi.out
      have fin := Aside0.mk (idxI_no p l (by have := hp.out; rwa [show i.toNat = l.length from by omega, List.take_length] at this))
      clear hii hlt
      go_wp2
      go_ret
      exact ⟨by rw [fin.out]; rfl, hd.out⟩

theorem idxI_any (p : Int → Bool) (l : List Int) : decide (idxI p l ≥ 0) = l.any p := by
  unfold idxI
  cases h : l.findIdx? p with
  | none =>
    rw [List.findIdx?_eq_none_iff] at h
    symm
    simp only [List.any_eq_false, ge_iff_le]
    rw [show decide ((0:Int) ≤ -1) = false from rfl, List.any_eq_false]
    exact fun x hx => by simpa using h x hx
  | some i =>
    rw [List.findIdx?_eq_some_iff_getElem] at h
    obtain ⟨hi, hp, _⟩ := h
    rw [decide_eq_true (by simp), Eq.comm, List.any_eq_true]
    exact ⟨_, List.getElem_mem hi, hp⟩

theorem ContainsFunc_calls (g : Nat) (p : Int → Bool) (hg : PredI g p) (eg : ∀ args w, (callFunc g args).run Try.prog w = .ok (.enter g args) w) (A : Option Addr) (c : Nat) (l : List Int) (w : World)
    (hr : Kd.C (Kd.int .i64) w A l.length l) (hc : l.length ≤ c) :
    Calls Try.prog 46 #[.slice A l.length c, .func (.func g) #[] #[]] w fun e w' => e = .returned (.bool (l.any p)) ∧ Drawn0 w w' := by
  go_enter Try.func46, Try.ntmps46
  go_wp2_with fail
  refine (IndexFunc_calls g p hg eg A c l _ hr hc).mono ?_
  rintro e w' ⟨rfl, hd⟩
  have fin := Aside0.mk (idxI_any p l)
  go_wp2
  go_ret
  exact ⟨by rw [← fin.out]; rfl, hd⟩

def planner_sectors.f (l0 : List Int) : Option Bool := some (!(l0.any fun x => !decide (0 ≤ x) || !decide (x ≤ 4096)))
theorem planner_sectors.calls (A0 : Option Addr) (c0 : Nat) (l0 : List Int) (r : Bool) (w : World) (hr0 : Kd.C (Kd.int .i64) w A0 l0.length l0) (hc0 : l0.length ≤ c0) (h : planner_sectors.f l0 = some r) :
    Calls Try.prog 41 #[.slice A0 l0.length c0] w fun e w' => e = .returned (.bool r) ∧ Drawn0 w w' := by
  obtain rfl := Option.some.inj h
  go_enter Try.func41, Try.ntmps41
  go_wp2_with fail
  refine (ContainsFunc_calls 59 _ sec_pred (enters_of Try.func59 (by kernel_rfl) rfl) A0 c0 l0 _ hr0 hc0).mono ?_
  rintro e w' ⟨rfl, hd⟩
  obtain ⟨b, hb⟩ : ∃ b, Aside0 ((l0.any fun x => !decide (0 ≤ x) || !decide (x ≤ 4096)) = b) := ⟨_, ⟨rfl⟩⟩
  rw [hb.out]
  go_wp2
  go_ret
  exact ⟨by rw [hb.out]; rfl, hd⟩
end Go.Proofs.Ytcflacjidabppaa.Pr

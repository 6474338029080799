/- sort.Search at a predicate with a threshold. -/
import Derived.Test.YtcflacjidabppaaP0
import Derived.Shelf.Abstract
namespace Go.Proofs.Ytcflacjidabppaa.Pr
open Go.RowKit Go.Proofs.YtcflacjidabppaaW.PrintWords Go.Proofs.YtcflacjidabppaaW.PrintLast Go.Proofs.YtcflacjidabppaaW.PrintMore
set_option linter.unusedVariables false
set_option linter.unusedSimpArgs false

theorem drawn_then {a b c : World} (h : Drawn0 a b) (k : Drawn0 b c) : Drawn0 a c := by
  obtain ⟨n, rfl⟩ := h
  obtain ⟨m, rfl⟩ := k
  exact ⟨⟨n + m, by rw [World.drewN_drewN]⟩⟩

/-- A function value (captured variables: caps) that answers 'r ≤ x' at every x from 0 to n - 1, and leaves what D says. -/
def PredC (D : World → World → Prop) (g : Nat) (caps : Array Value) (r n : Int) (w : World) : Prop :=
  ∀ (x : Int) (W : World), 0 ≤ x → x < n → D w W → Calls Try.prog g (#[.int .i64 x] ++ caps) W fun e w' => e = .returned (.bool (decide (r ≤ x))) ∧ D W w'

theorem search_mid (i j : Int) (h0 : 0 ≤ i) (h1 : i < j) (h2 : j ≤ 4611686018427387904) : wrap64 (IntKind.u64.wrap (wrap64 (i + j)) / 2) = (i + j) / 2 := by
  have e1 : wrap64 (i + j) = i + j := by unfold wrap64; omega
  have e2 : IntKind.u64.wrap (i + j) = i + j := by
    simp only [IntKind.wrap, IntKind.signed, IntKind.bits, Bool.false_and, Bool.false_eq_true, if_false]
    omega
  rw [e1, e2]
  unfold wrap64
  omega

set_option maxRecDepth 100000 in
theorem Search_calls (D : World → World → Prop) (hD0 : ∀ w, D w w) (hDt : ∀ a b c, D a b → D b c → D a c) (g : Nat) (caps : Array Value) (r n : Int) (w : World)
    (hr0 : 0 ≤ r) (hr1 : r ≤ n ∨ r = 0) (hn : n ≤ 4611686018427387904) (eg : ∀ args w, (callFunc g args).run Try.prog w = .ok (.enter g args) w) (hg : PredC D g caps r n w) :
    Calls Try.prog 43 #[.int .i64 n, .func (.func g) #[] caps] w fun e w' => e = .returned (.int .i64 r) ∧ D w w' := by
  have HG := Aside0.mk hg
  have HD0 := Aside0.mk hD0
  have HDt := Aside0.mk hDt
  have HR := Aside0.mk (And.intro hr0 hr1)
  clear hg hD0 hDt hr0 hr1
  go_enter Try.func43, Try.ntmps43
  go_wp2
  go_loopw [5, 6] (fun a b wr => ∃ i j : Int, a = .int .i64 i ∧ b = .int .i64 j ∧ Aside0 (0 ≤ i ∧ i ≤ r ∧ (r ≤ j ∨ n < 0) ∧ j ≤ n) ∧ Aside0 (D w wr)) (fun a b _ => (intOf b - intOf a).toNat)
  case atStart => exact ⟨0, n, rfl, rfl, ⟨by have := HR.out; omega⟩, ⟨HD0.out w⟩⟩
  case round =>
    obtain ⟨i, j, rfl, rfl, hi, hd⟩ := hrel
    by_cases hlt : i < j
    · go_wp2_with fail
      have hmid := search_mid i j (by have := hi.out; omega) hlt (by have := hi.out; omega)
      rw [hmid]
      obtain ⟨m, hm⟩ : ∃ m, Aside0 (m = (i + j) / 2) := ⟨_, ⟨rfl⟩⟩
      rw [← hm.out]
      clear hmid
      have hm2 := Aside0.mk (show i ≤ m ∧ m < j from by have := hm.out; omega)
      refine (HG.out m _ (by have := hm2.out; have := hi.out; omega) (by have := hm2.out; have := hi.out; omega) hd.out).mono ?_
      rintro e w1 ⟨rfl, hd1⟩
      have hd2 := Aside0.mk (HDt.out _ _ _ hd.out hd1)
      clear hd1
      by_cases hrm : r ≤ m
      · have hdec := decide_eq_true hrm
        rw [hdec]
        have hrm2 := Aside0.mk hrm
        clear hrm hdec hlt
        go_wp2
        go_roundw
        case rel => exact ⟨i, m, rfl, rfl, ⟨by have := hi.out; have := hm2.out; have := hrm2.out; omega⟩, hd2⟩
        case measure => have := hm2.out; simp [intOf]; omega
      · have hdec := decide_eq_false hrm
        rw [hdec]
        have hrm2 := Aside0.mk hrm
        have hw : wrap64 (m + 1) = m + 1 := by have := hi.out; have := hm2.out; unfold wrap64; omega
        clear hrm hdec hlt
        go_wp2
        go_roundw
        case rel => exact ⟨m + 1, j, by rw [hw], rfl, ⟨by have := hi.out; have := hm2.out; have := hrm2.out; omega⟩, hd2⟩
        case measure => have := hm2.out; simp [intOf, hw]; omega
    · have e : Aside0 (i = r) := ⟨by have := hi.out; have := HR.out; omega⟩
      go_wp2
      go_ret
      exact ⟨by rw [← e.out]; rfl, hd.out⟩
end Go.Proofs.Ytcflacjidabppaa.Pr

/- slices.Chunk at []int: the function and its iterator. -/
import Derived.RangeFuncBox
import Derived.RangeFuncLeaves
import Derived.Shelf.Abstract
import Derived.OwnWalkIn
import Derived.TacticsInMore
import Derived.LoopNIn
import Derived.LoopIn
import Derived.IntWalk
import Derived.Test.YtcflacjidabppaaGSearch
namespace Go.Proofs.Ytcflacjidabppaa.Pr
open Go.RowKit Go.Shelf Go.Proofs.YtcflacjidabppaaW.PrintWords Go.Proofs.YtcflacjidabppaaW.PrintLast Go.Proofs.YtcflacjidabppaaW.PrintMore
set_option linter.unusedVariables false
set_option linter.unusedSimpArgs false
attribute [local go_sem] Oper.semAt_some max2_int min2_int max_two min_two max_three min_three max_four min_four

set_option maxHeartbeats 1000000 in
theorem Chunk_in (F : Fence) (n : Nat) (h69 : F.fn 69) (hro : F.round = none) (A : Option Addr) (len cap : Nat) (p : Int) (hp : 1 ≤ p) (w : World) :
    CallsIn F n Try.prog 69 #[.slice A len cap, .int .i64 p] w fun e w' => e = .returned (.func (.func 73) #[] #[.pointer (some ⟨w.heap.size, 0, none⟩), .pointer (some ⟨w.heap.size + 1, 0, none⟩)]) ∧ w' = (w.alloc (.cells #[.slice A len cap] 22)).alloc (.cells #[.int .i64 p] 3) := by
  have hmf : ∀ (fn : Fn) (first cap : Array Value) (w : World), (Instr.makeFunc fn first cap).run Try.prog w = .ok (.func fn first cap) w := fun _ _ _ _ => rfl
  have q0 : decide (p < 1) = false := decide_eq_false (by omega)
  refine callsIn_of_wp Try.func69 rfl h69 ?_ hro
  simp only [Try.ntmps69, List.size_toArray, List.length_cons, List.length_nil, Nat.reduceAdd, Nat.reduceSub, Array.replicate_succ, Array.replicate_zero, List.push_toArray, List.append_toArray, List.nil_append, List.cons_append]
  gi_wp2
  go_ret
  exact ⟨rfl, rfl⟩

/-- The two boxes of a Chunk's closure stay. -/
def KB (B : Nat) (W W' : World) : Prop := W'.heap[B]? = W.heap[B]? ∧ W'.heap[B + 1]? = W.heap[B + 1]?
theorem KB.refl (B : Nat) (W : World) : KB B W W := ⟨rfl, rfl⟩
theorem KB.trans {B : Nat} {a b c : World} (h : KB B a b) (k : KB B b c) : KB B a c := ⟨k.1.trans h.1, k.2.trans h.2⟩
theorem KB.drew {B : Nat} {W W' : World} (h : KB B W.drew W') : KB B W W' := h
theorem KB.below {B : Nat} {W W' : World} {m : Nat} (h : Below m W W') (hB : B + 1 < m) : KB B W W' := ⟨h.block B (by omega), h.block (B + 1) hB⟩
theorem KB.c0 {B : Nat} {W W' : World} (h : KB B W W') {v : Value} (hc : W.cell? ⟨B, 0, none⟩ = some v) : W'.cell? ⟨B, 0, none⟩ = some v := (World.cell?_of_block (w := W) (a := ⟨B, 0, none⟩) h.1).trans hc
theorem KB.c1 {B : Nat} {W W' : World} (h : KB B W W') {v : Value} (hc : W.cell? ⟨B + 1, 0, none⟩ = some v) : W'.cell? ⟨B + 1, 0, none⟩ = some v := (World.cell?_of_block (w := W) (a := ⟨B + 1, 0, none⟩) h.2).trans hc

/-- Chunk number k of len elements, p at a time. -/
def chk (len p k : Nat) : Nat := min p (len - k * p)

set_option maxRecDepth 100000 in
set_option maxHeartbeats 2000000 in
theorem chunk1_in (F : Fence) (n : Nat) (h73 : F.fn 73) (hro : F.round = none) (hn : 1 ≤ n) (l B : Nat) (A : Option Addr) (ad : Addr) (len cap p m : Nat) (hA : 0 < len → A = some ad) (hp : 1 ≤ p) (hp2 : p ≤ 1000000) (hl : len ≤ 1000000) (hlc : len ≤ cap)
    (hm : len ≤ m * p ∧ (m ≠ 0 → (m - 1) * p < len)) (J Jx : List Nat → World → Prop) (hJd : ∀ pre W, J pre W → J pre W.drew)
    (hY : ∀ pre x W, J pre W → pre.length < m → YieldAt F (n - 1) Try.prog l #[.slice (some (ad.add (x * p))) (chk len p x) (chk len p x)] W fun e W' =>
      (e = .returned (.bool true) ∧ J (pre ++ [x]) W' ∧ KB B W W') ∨ (e = .returned (.bool false) ∧ Jx (pre ++ [x]) W'))
    (W : World) (hBs : W.cell? ⟨B, 0, none⟩ = some (.slice A len cap)) (hBn : W.cell? ⟨B + 1, 0, none⟩ = some (.int .i64 p)) (h0 : J [] W) :
    CallsIn F n Try.prog 73 #[.func (.yield l) #[] #[], .pointer (some ⟨B, 0, none⟩), .pointer (some ⟨B + 1, 0, none⟩)] W fun e W' => (∃ v, e = .returned v) ∧
      ((∃ ys, ys = List.range m ∧ J ys W') ∨ (∃ pre, (∃ k, k ≤ m ∧ pre = List.range k) ∧ Jx pre W')) := by
  refine callsIn_of_wp Try.func73 rfl h73 ?_ hro
  simp only [Try.ntmps73, List.size_toArray, List.length_cons, List.length_nil, Nat.reduceAdd, Nat.reduceSub, Array.replicate_succ, Array.replicate_zero, List.push_toArray, List.append_toArray, List.nil_append, List.cons_append]
  gi_wp2
  gi_loopw [4] (fun i wr => ∃ k j : Nat, k ≤ m ∧ Aside0 (j = k * p) ∧ i = .int .i64 j ∧ J (List.range k) wr ∧ KB B W wr)
    (fun i _ => len + p - (intOf i).toNat)
  case atStart => exact ⟨0, 0, Nat.zero_le _, ⟨by simp⟩, rfl, h0, KB.refl _ _⟩
  case round =>
    obtain ⟨k, j, hk, hj, rfl, hJs, hnx⟩ := hrel
    have c1 : wr.cell? ⟨B, 0, none⟩ = some (.slice A len cap) := hnx.c0 hBs
    have c2 : wr.cell? ⟨B + 1, 0, none⟩ = some (.int .i64 p) := hnx.c1 hBn
    by_cases hlt : j < len
    · obtain rfl := hA (by omega)
      have q0 : decide ((j : Int) < len) = true := decide_eq_true (by omega)
      have hcj : j < cap := by omega
      have hne : ¬ cap = j := by omega
      have hkm : k < m := by
        rcases Nat.lt_or_ge k m with h | h
        · exact h
        · have := hj.out; have : m * p ≤ k * p := Nat.mul_le_mul_right p h; omega
      have hj1 := Aside0.mk (show k * p + p = (k + 1) * p from by rw [Nat.add_mul, Nat.one_mul])
      obtain ⟨fn, tmps, assign, body, hy, hR⟩ := hY _ k wr.drew (hJd _ _ hJs) (by rw [List.length_range]; exact hkm)
      rw [← hj.out] at hy
      by_cases hc : len - j < p
      · have e : chk len p k = len - j := by unfold chk; rw [← hj.out]; omega
        rw [e] at hy
        clear e
        have w1 : IntKind.i64.wrap ((j : Int) + (len - j : Nat)) = (j : Int) + (len - j : Nat) := IntWalk.i64_in _ (by omega)
        have hsl : ((j : Int) + (len - j : Nat)) = len := by omega
        gi_wp2
        gi_region
        all_goals gi_wp2
        all_goals
          refine hR.mono ?_
          rintro e W3 (⟨rfl, hJ3, hk3⟩ | ⟨rfl, hJx3⟩)
          · have c3 : W3.cell? ⟨B + 1, 0, none⟩ = some (.int .i64 p) := hk3.drew.c1 c2
            have c4 := hk3.drew
            gi_wp2
            go_roundw
            case rel => exact ⟨k + 1, j + p, hkm, ⟨by rw [hj.out, hj1.out]⟩, by simp, by rw [List.range_succ]; exact hJ3, hnx.trans c4⟩
            case measure => simp [intOf]; omega
          · gi_wp2
            refine bodyPost_ret (results_none rfl _ _ _) rfl ?_
            exact ⟨⟨_, rfl⟩, .inr ⟨_, ⟨k + 1, hkm, by rw [List.range_succ]⟩, hJx3⟩⟩
      · have e : chk len p k = p := by unfold chk; rw [← hj.out]; omega
        rw [e] at hy
        clear e
        have w1 : IntKind.i64.wrap ((j : Int) + p) = (j : Int) + p := IntWalk.i64_in _ (by omega)
        have h4 : ¬ (len : Int) < (j : Int) + p := by omega
        have h5 : ¬ cap < j + p := by omega
        gi_wp2
        gi_region
        all_goals gi_wp2
        all_goals
          refine hR.mono ?_
          rintro e W3 (⟨rfl, hJ3, hk3⟩ | ⟨rfl, hJx3⟩)
          · have c3 : W3.cell? ⟨B + 1, 0, none⟩ = some (.int .i64 p) := hk3.drew.c1 c2
            have c4 := hk3.drew
            gi_wp2
            go_roundw
            case rel => exact ⟨k + 1, j + p, hkm, ⟨by rw [hj.out, hj1.out]⟩, by simp, by rw [List.range_succ]; exact hJ3, hnx.trans c4⟩
            case measure => simp [intOf]; omega
          · gi_wp2
            refine bodyPost_ret (results_none rfl _ _ _) rfl ?_
            exact ⟨⟨_, rfl⟩, .inr ⟨_, ⟨k + 1, hkm, by rw [List.range_succ]⟩, hJx3⟩⟩
    · have e : k = m := by
        have h1 := hj.out
        rcases Nat.lt_or_ge k m with h | h
        · have : k * p ≤ (m - 1) * p := Nat.mul_le_mul_right p (by omega)
          have := hm.2 (by omega)
          omega
        · omega
      have q0 : decide ((j : Int) < len) = false := decide_eq_false (by omega)
      gi_wp2
      go_end0
      exact ⟨⟨_, rfl⟩, .inl ⟨_, by rw [e], hJs⟩⟩

/-- The value that Chunk hands back, as an iterator. -/
theorem chunk_stops (F : Fence) (n : Nat) (h73 : F.fn 73) (hro : F.round = none) (hn : 1 ≤ n) (B : Nat) (A : Option Addr) (ad : Addr) (len cap p m : Nat) (hA : 0 < len → A = some ad) (hp : 1 ≤ p) (hp2 : p ≤ 1000000) (hl : len ≤ 1000000) (hlc : len ≤ cap)
    (hm : len ≤ m * p ∧ (m ≠ 0 → (m - 1) * p < len)) (w : World) (hB : B + 1 < w.heap.size) (hBs : w.cell? ⟨B, 0, none⟩ = some (.slice A len cap)) (hBn : w.cell? ⟨B + 1, 0, none⟩ = some (.int .i64 p)) :
    SeqStopsK F n Try.prog 73 #[.pointer (some ⟨B, 0, none⟩), .pointer (some ⟨B + 1, 0, none⟩)] (fun x : Nat => #[Value.slice (some (ad.add (x * p))) (chk len p x) (chk len p x)]) (KB B) (fun ys => ys = List.range m) (fun pre => ∃ k, k ≤ m ∧ pre = List.range k) m w :=
  fun l J Jx W hW hJ _ hY h0 => chunk1_in F n h73 hro hn l B A ad len cap p m hA hp hp2 hl hlc hm J Jx
    (fun pre W hs => hJ pre W W.drew none hs (grown_of_below (below_drew (Below.refl _ _)) none) (fun r e => by cases e)) hY W
    ((KB.below hW hB).c0 hBs) ((KB.below hW hB).c1 hBn) h0
end Go.Proofs.Ytcflacjidabppaa.Pr

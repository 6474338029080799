/- Short words for the walks of the printed texts: what has happened to the memory since a fact was told is found by itself. -/
import Derived.Test.YtcflacjidabppaaP0
namespace Go.Proofs.Ytcflacjidabppaa.Pr
open Go.RowKit Go.Proofs.YtcflacjidabppaaW.PrintWords Go.Proofs.YtcflacjidabppaaW.PrintLast Go.Proofs.YtcflacjidabppaaW.PrintMore
theorem qR {α : Type} {d : Kd α} {e base : Nat} {ok : Nat → Prop} {v : Value} {xs : List α} {W W1 : World} (h : d.R e W base ok v xs)
    (s : Below W.heap.size W W1 := by with_reducible repeat (first | exact Below.refl _ _ | apply below_alloc | apply pw_below_drewN | apply below_drew1)) : d.R e W1 base ok v xs := Kd.R_below h s
theorem qB {g : Nat} {o : Obj} {W W1 : World} (h : W.heap[g]? = some o)
    (s : Below W.heap.size W W1 := by with_reducible repeat (first | exact Below.refl _ _ | apply below_alloc | apply pw_below_drewN | apply below_drew1)) : W1.heap[g]? = some o := blk_below h s
theorem qC {α : Type} {d : Kd α} {A : Option Addr} {n : Nat} {xs : List α} {w W W1 : World} (h : d.C w A n xs) (hb : Below w.heap.size w W)
    (s : Below W.heap.size W W1 := by with_reducible repeat (first | exact Below.refl _ _ | apply below_alloc | apply pw_below_drewN | apply below_drew1)) : d.C W1 A n xs := Kd.C_below (Kd.C_below h hb) s
def StW (n : Nat) (W W1 : World) : Prop := ∀ w : World, w.heap.size = n → Below n w W → Below n w W1
theorem StW.refl (n : Nat) (W : World) : StW n W W := fun _ _ h => h
theorem StW.alloc {n : Nat} {W W1 : World} (h : StW n W W1) (o : Obj) : StW n W (W1.alloc o) := fun w e k => by subst e; exact below_alloc (h w rfl k) o
theorem StW.drewN {n : Nat} {W W1 : World} (h : StW n W W1) (m : Nat) : StW n W (W1.drewN m) := fun w e k => pw_below_drewN (h w e k) m
theorem StW.drew1 {n : Nat} {W W1 : World} (h : StW n W W1) : StW n W W1.drew := fun w e k => below_drew1 (h w e k)
theorem StW.set {n : Nat} {W W1 : World} {g j : Nat} {v : Value} (h : StW n W W1) (hg : n ≤ g) : StW n W (W1.setCell ⟨g, j, none⟩ v) := fun w e k => by subst e; exact below_set (h w rfl k) hg
theorem qW {w W W1 : World} (h : Below w.heap.size w W)
    (s : StW w.heap.size W W1 := by with_reducible repeat (first | exact StW.refl _ _ | apply StW.alloc | apply StW.drewN | apply StW.drew1 | refine StW.set ?_ (Aside0.out (by assumption)))) : Below w.heap.size w W1 := s w rfl h
section
variable {P : Program} {ops : Array Oper} {Q : Exit → Act → World → Prop} {md : Region.Mode} {S : World → Prop} {ds : List Nat} {T : Bool × List (List Nat × List Nat)}
theorem pS {i : Nat} {N : Option Tmp} {oi : Oper} {v : Value} {fuel : Nat} {l : Array Bool} {a : Act} {w : World} (l' : Array Bool) (hi : ops[i]? = some oi) (hN : oi.dst = N) (hT : rtab md ops = T) {a' : Act} (h : wpAnyLast P md ops Q S ds fuel l' a' w)
    (hc : anyT T l.toList l'.toList i = true := by kernel_rfl) (hQ : ∀ c a w, Q (.panic c) (a.put oi.dst v) w → Q (.panic c) a w := by exact fun _ _ _ h => h)
    (hy : Yields P ops oi v a := by exact Or.inl ⟨by rfl, by intro w'; go_simp; with_reducible rfl⟩)
    (ha : a.put N v = a' := by simp only [Act.put, List.setIfInBounds_toArray, List.set_cons_zero, List.set_cons_succ, i64_w, i32_w]; rfl) : wpAnyLast P md ops Q S ds (fuel + 1) l a w :=
  pure_ l' hi hN (any_of hT hc) hQ hy ha h
theorem pU {i : Nat} {N : Option Tmp} {oi : Oper} {fuel : Nat} {l : Array Bool} {a : Act} {w : World} (l' : Array Bool) (hi : ops[i]? = some oi) (hN : oi.dst = N) (hT : rtab md ops = T) {a' : Act} (h : wpAnyLast P md ops Q S ds fuel l' a' w)
    (hc : anyT T l.toList l'.toList i = true := by kernel_rfl) (hQ : ∀ c a w, Q (.panic c) (a.put oi.dst undef) w → Q (.panic c) a w := by exact fun _ _ _ h => h)
    (hy : Yields P ops oi undef a := by exact Or.inr ⟨by rfl, rfl⟩)
    (ha : a.put N undef = a' := by simp only [Act.put, List.setIfInBounds_toArray, List.set_cons_zero, List.set_cons_succ, i64_w, i32_w]; rfl) : wpAnyLast P md ops Q S ds (fuel + 1) l a w :=
  pure_ l' hi hN (any_of hT hc) hQ hy ha h
end
end Go.Proofs.Ytcflacjidabppaa.Pr

/- A region's step in one row: an operation that yields in every world, one that yields under what is held, and a frame brought to its plain form; their checks are found by the rows' own default proofs. -/
import Derived.Test.YtkliaoikljjeaaaXa
namespace Go.Proofs.Ytkliaoikljjeaaa.X
open Go.RowKit Go.Proofs.YtkliaoikljjeaaaW.PrintWords Go.Proofs.YtkliaoikljjeaaaW.PrintLast Go.Proofs.YtkliaoikljjeaaaW.PrintMore
section
variable {P : Program} {md : Region.Mode} {ops : Array Oper} {Q : Exit → Act → World → Prop} {S : World → Prop} {ds : List Nat}
theorem pu (i : Nat) (N : Option Tmp) {oi : Oper} {v : Value} {fuel : Nat} {l : Array Bool} {a : Act} {w : World} {T : Bool × List (List Nat × List Nat)} (l' : Array Bool) (hi : ops[i]? = some oi) (hN : oi.dst = N) (hT : rtab md ops = T)
    (hQ : ∀ c a w, Q (.panic c) (a.put oi.dst v) w → Q (.panic c) a w) (h1 : anyT T l.toList l'.toList i = true := by kernel_rfl) (h2 : Region.wanted oi (yielded ops a.tmps) = true := by rfl)
    (hy : ∀ w', (execOp a.eval oi).run P w' = .ok (.value v) w' := by (intro w'; go_simp; with_reducible rfl)) {a' : Act}
    (ha : a.put N v = a' := by (simp only [Act.put, List.setIfInBounds_toArray, List.set_cons_zero, List.set_cons_succ, i64_w, i32_w]; rfl))
    (h : wpAnyLast P md ops Q S ds fuel l' a' w) : wpAnyLast P md ops Q S ds (fuel + 1) l a w :=
  pure_ (i := i) (N := N) (v := v) (a' := a') l' hi hN (any_of hT h1) hQ (Or.inl ⟨h2, hy⟩) ha h
theorem un (i : Nat) (N : Option Tmp) {oi : Oper} {fuel : Nat} {l : Array Bool} {a : Act} {w : World} {T : Bool × List (List Nat × List Nat)} (l' : Array Bool) (hi : ops[i]? = some oi) (hN : oi.dst = N) (hT : rtab md ops = T)
    (hQ : ∀ c a w, Q (.panic c) (a.put oi.dst undef) w → Q (.panic c) a w) (h1 : anyT T l.toList l'.toList i = true := by kernel_rfl) (h2 : Region.wanted oi (yielded ops a.tmps) = false := by rfl) {a' : Act}
    (ha : a.put N undef = a' := by (simp only [Act.put, List.setIfInBounds_toArray, List.set_cons_zero, List.set_cons_succ, i64_w, i32_w]; rfl))
    (h : wpAnyLast P md ops Q S ds fuel l' a' w) : wpAnyLast P md ops Q S ds (fuel + 1) l a w :=
  pure_ (i := i) (N := N) (v := undef) (a' := a') l' hi hN (any_of hT h1) hQ (Or.inr ⟨h2, rfl⟩) ha h
theorem tk (i : Nat) (N : Option Tmp) {oi : Oper} {v : Value} {fuel : Nat} {l : Array Bool} {a : Act} {w : World} {T : Bool × List (List Nat × List Nat)} {B : List Nat} (l' : Array Bool) (hi : ops[i]? = some oi) (hN : oi.dst = N) (hT : rtab md ops = T)
    (hB : waitsOk T.2 B = true) (hQ : ∀ c a w, Q (.panic c) (a.put oi.dst v) w → Q (.panic c) a w) (hS : S w) (h1 : takeW T B ds l.toList l'.toList i = true := by kernel_rfl) (h2 : Region.wanted oi (yielded ops a.tmps) = true := by rfl)
    (hy : ∀ w', S w' → (execOp a.eval oi).run P w' = .ok (.value v) w') {a' : Act}
    (ha : a.put N v = a' := by (simp only [Act.put, List.setIfInBounds_toArray, List.set_cons_zero, List.set_cons_succ, i64_w, i32_w]; rfl))
    (h : wpAnyLast P md ops Q S ds fuel l' a' w) : wpAnyLast P md ops Q S ds (fuel + 1) l a w :=
  take_ (i := i) (N := N) (v := v) (a' := a') l' hi hN (take_ofW hT hB h1) hQ (Or.inl ⟨h2, hy⟩) hS ha h
theorem nm {fuel : Nat} {l : Array Bool} {a a' : Act} {w : World} (ha : a = a' := by (show Act.put _ _ _ = _; simp only [Act.put, List.setIfInBounds_toArray, List.set_cons_zero, List.set_cons_succ, i64_w, i32_w]; rfl))
    (h : wpAnyLast P md ops Q S ds fuel l a' w) : wpAnyLast P md ops Q S ds fuel l a w := norm_ ha h
end
theorem bb {W w1 : World} {g : Nat} {o : Obj} (hb : Below W.heap.size W w1) (h : W.heap[g]? = some o) : Aside0 (w1.heap[g]? = some o) := Aside0.mk (blk_below h hb)
end Go.Proofs.Ytkliaoikljjeaaa.X

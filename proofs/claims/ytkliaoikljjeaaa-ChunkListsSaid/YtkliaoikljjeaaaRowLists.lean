/-
  The row of ChunkLists: for every array of three numbers and every two slices of Pairs, in whatever memory, the call returns true and all that it was handed reads as before. No condition.
-/
import Derived.Test.YtkliaoikljjeaaaRows
import Derived.Test.YtkliaoikljjeaaaYc
import Derived.WalkKit
import Derived.ProofKit
import Derived.OpenShut
import Derived.ShutString
import Derived.ChangeOld
import Derived.Below
import Derived.SizedLaws
import Derived.Deep.Slices
import Derived.Laws.IdiomArrays
namespace Go.Proofs.Ytkliaoikljjeaaa.chunkLists
open Go.ChangeShapes Go.WideShapes Go.ChangeAt Go.RowKit
open Go.Proofs.YtkliaoikljjeaaaW.PrintWords (Kd.C)
set_option linter.unusedVariables false
theorem own : ownKnob Try.prog.godebug = none := by kernel_rfl
theorem laidOut : laidOutB Try.prog = true := by kernel_rfl
section
variable {H : Type} {enc : TypeId × Value → H} {W : World} {base : Nat} {spare : Nat → Bool} {held : Bool}
/-- A slice of Pairs that came in reads as a list. -/
theorem open_pairs {fuel : Nat} {a : Option Addr} {len cap : Nat} {x : DataW H × List MemPlace} (h : DataW.trod enc Try.prog W base spare held fuel 23 (Value.cells (.slice a len cap)).toList = some x) :
    ∃ l : List X.S65, l.length = len ∧ len ≤ cap ∧ Go.Proofs.YtkliaoikljjeaaaW.PrintWords.Kd.C X.k65 W a l.length l := by
  rcases Go.Deep.open_slice Try.underlying23 h with ⟨hcs, _⟩ | ⟨ad, len', cap', m, n, D, Pl, hcs, _, hl, hm, hmm, _, hi⟩
  · simp [Value.cells] at hcs
    obtain ⟨rfl, rfl, rfl⟩ := hcs
    exact ⟨[], rfl, Nat.le_refl _, Go.Proofs.YtkliaoikljjeaaaW.PrintWords.Kd.C_nil _ _⟩
  · simp [Value.cells] at hcs
    obtain ⟨rfl, rfl, rfl⟩ := hcs
    have hC : Try.prog.cellsOf 65 = 2 := by kernel_rfl
    rw [hC] at hi
    have hlm : len ≤ m := by rw [hmm]; split <;> omega
    haveI : Inhabited X.S65 := ⟨X.z65⟩
    obtain ⟨V, hV⟩ := Go.Deep.choose_lt (n := len) (α := X.S65) (p := fun i q => W.cell? (ad.add (i * 2 + 0)) = some (.int .i64 q.f0) ∧ W.cell? (ad.add (i * 2 + 1)) = some (.int .i64 q.f1)) (fun i hlt => by
      obtain ⟨cs', h1, h2⟩ := hi i (by omega)
      obtain ⟨_, hlen, hat⟩ := World.cells?_some h1
      obtain ⟨y0, y1, n', _, _, g0, g1⟩ := trod_struct2 Try.underlying65 h2
      match cs', hlen with
      | [c0, c1], _ =>
        have k3 : Try.prog.cellsOf 3 = 1 := by kernel_rfl
        rw [k3] at g0 g1
        obtain ⟨x0, e0, _, _⟩ := DataW.trod_int Try.underlying3 g0
        obtain ⟨x1, e1, _, _⟩ := DataW.trod_int Try.underlying3 g1
        simp at e0 e1
        subst e0 e1
        refine ⟨⟨x0, x1⟩, ?_, ?_⟩
        · rw [← Go.Deep.add_add]; exact hat 0 (by omega)
        · rw [← Go.Deep.add_add]; exact hat 1 (by omega))
    refine ⟨(List.range len).map V, by simp, hl, ?_⟩
    refine ⟨rfl, by simp; unfold maxLen at hm; omega, fun _ => ⟨ad, rfl, fun j p hj => ?_⟩⟩
    have hj' : j < len := by
      have := (List.getElem?_eq_some_iff.1 hj).1
      simpa using this
    have hp : p = V j := by
      have : ((List.range len).map V)[j]? = some (V j) := by simp [hj']
      rw [this] at hj
      exact (Option.some.inj hj).symm
    subst hp
    refine ⟨[.int .i64 (V j).f0, .int .i64 (V j).f1], rfl, X.k65_mk W (V j), fun i u hu => ?_⟩
    match i, hu with
    | 0, hu =>
      obtain rfl : Value.int .i64 (V j).f0 = u := Option.some.inj hu
      exact (hV j hj').1
    | 1, hu =>
      obtain rfl : Value.int .i64 (V j).f1 = u := Option.some.inj hu
      exact (hV j hj').2
theorem okWide_array {P : Program} {r : Reach} {b0 : Nat} {t e : TypeId} {n : Nat} {v : Value} (ht : P.underlying t = some (.array n e)) (h : Value.okWide P W r b0 t v) : ∃ cs, v = .agg cs ∧ cs.size = P.cellsOf t := by
  simp only [Value.okWide, ht] at h
  obtain ⟨cs, h1, h2, _⟩ := h
  exact ⟨cs, h1, h2⟩
/-- An array of three numbers that came in is three numbers. -/
theorem open_nums {r : Reach} {b0 : Nat} {v : Value} (hv : Value.okWide Try.prog W r b0 22 v) {fuel : Nat} {x : DataW H × List MemPlace} (h : DataW.trod enc Try.prog W base spare held fuel 22 v.cells.toList = some x) :
    ∃ a0 a1 a2 : Int, v = .agg #[.int .i64 a0, .int .i64 a1, .int .i64 a2] := by
  obtain ⟨cs, rfl, hsz⟩ := okWide_array Try.underlying22 hv
  obtain ⟨l⟩ := cs
  have hC : Try.prog.cellsOf 22 = 3 := by kernel_rfl
  match l, hsz.trans hC with
  | [c0, c1, c2], _ =>
    obtain ⟨y0, y1, y2, n, _, g0, g1, g2⟩ := trod_array3 Try.underlying22 (by kernel_rfl) h
    obtain ⟨x0, e0, _, _⟩ := DataW.trod_int Try.underlying3 g0
    obtain ⟨x1, e1, _, _⟩ := DataW.trod_int Try.underlying3 g1
    obtain ⟨x2, e2, _, _⟩ := DataW.trod_int Try.underlying3 g2
    simp at e0 e1 e2
    subst e0 e1 e2
    exact ⟨x0, x1, x2, rfl⟩
end
set_option maxHeartbeats 1000000 in
set_option maxRecDepth 100000 in
theorem lifted (os : Os) (started : os.Started) (H : Type) (enc : TypeId × Value → H) :
    ReturnsInHanded {} Try.checked os 3 .any (Rows.chunkListsSpec.pre6 enc Try.prog Try.f3 Rows.chunkListsRow.domain false) (Rows.chunkListsSpec.post enc Try.prog Try.f3 false true false false) := by
  refine returnsInHanded_of_change_sized (C := Try.checked) own started (by kernel_rfl) Try.func3
    (ChangeSpec.witness6 (enc := enc) (C := Try.checked) false ⟨#[], #[.agg #[.int .i64 0, .int .i64 0, .int .i64 0], .slice none 0 0, .slice none 0 0], []⟩ 8 (by kernel_rfl) (by kernel_rfl) (by kernel_rfl) (by kernel_rfl)) ?_
  intro W base args ds gs before hval0 hW hcnd hsz0 _
  have hval : ∀ (j : Nat) t v, Try.f3.params[j]? = some t → args[j]? = some v → Value.okWide Try.prog W .any base t v := hval0
  have hW' := hW
  obtain ⟨p, q, hA0, hV, rfl, hfz, hnd⟩ := hW
  have hA : DataW.TrodAll enc Try.prog W 0 (fun _ => true) true Try.f3.params.toList args.toList ds p := hA0
  rw [Try.params3] at hA hval
  obtain ⟨v0, vs0, d0, ds0, p0, q0, hargs, rfl, rfl, h0, r0⟩ := trodAll_cons hA
  obtain ⟨v1, vs1, d1, ds1, p1, q1, rfl, rfl, rfl, h1, r1⟩ := trodAll_cons r0
  obtain ⟨v2, vs2, d2, ds2, p2, q2, rfl, rfl, rfl, h2, r2⟩ := trodAll_cons r1
  obtain ⟨rfl, rfl, rfl⟩ := trodAll_nil r2
  obtain rfl : args = #[v0, v1, v2] := by cases args; simp_all
  obtain ⟨rfl, rfl⟩ := trodVars_none hV
  have k0 := h0
  have lt0 : ∀ x ∈ p0, x.block < W.heap.size := by obtain ⟨m, hm⟩ := k0; exact DataW.trod_lt m _ _ _ hm
  obtain ⟨a0, a1, a2, rfl⟩ : ∃ a0 a1 a2 : Int, v0 = .agg #[.int .i64 a0, .int .i64 a1, .int .i64 a2] := by
    obtain ⟨fuel, hf⟩ := h0
    exact open_nums (hval 0 22 v0 rfl rfl) hf
  obtain ⟨A1, len1, cap1, rfl⟩ := okWide_slice Try.underlying23 (hval 1 23 v1 rfl rfl)
  have k1 := h1
  have lt1 : ∀ x ∈ p1, x.block < W.heap.size := by obtain ⟨m, hm⟩ := k1; exact DataW.trod_lt m _ _ _ hm
  obtain ⟨l1, rfl, hc1, hr1⟩ : ∃ l : List X.S65, l.length = len1 ∧ len1 ≤ cap1 ∧ Go.Proofs.YtkliaoikljjeaaaW.PrintWords.Kd.C X.k65 W A1 l.length l := by
    obtain ⟨fuel, hf⟩ := h1
    exact open_pairs hf
  obtain ⟨A2, len2, cap2, rfl⟩ := okWide_slice Try.underlying23 (hval 2 23 v2 rfl rfl)
  have k2 := h2
  have lt2 : ∀ x ∈ p2, x.block < W.heap.size := by obtain ⟨m, hm⟩ := k2; exact DataW.trod_lt m _ _ _ hm
  obtain ⟨l2, rfl, hc2, hr2⟩ : ∃ l : List X.S65, l.length = len2 ∧ len2 ≤ cap2 ∧ Go.Proofs.YtkliaoikljjeaaaW.PrintWords.Kd.C X.k65 W A2 l.length l := by
    obtain ⟨fuel, hf⟩ := h2
    exact open_pairs hf
  clear hA0 hval0 hsz0
  obtain ⟨k, hk⟩ := X.ChunkLists_true a0 a1 a2 l1 l2
  refine (X.tripartitelaw06_ChunkLists.calls k a0 a1 a2 A1 cap1 l1 A2 cap2 l2 true W hr1 hc1 hr2 hc2 hk).mono fun e W' ⟨he, bel⟩ => ?_
  subst he
  exact ⟨_, rfl, _, _, _, [], _, [], hW', trodAll_mk1 (shut_bool Try.underlying4 _), (trodAll_cons_mk (Below.trod laidOut (by kernel_rfl) (of_decide_eq_true (by kernel_rfl)) k0 bel lt0) (trodAll_cons_mk (Below.trod laidOut (by kernel_rfl) (of_decide_eq_true (by kernel_rfl)) k1 bel lt1) (trodAll_cons_mk (Below.trod laidOut (by kernel_rfl) (of_decide_eq_true (by kernel_rfl)) k2 bel lt2) trodAll_mk0))), rfl, bel.frame _, fun h => by cases h⟩
theorem over : Rows.chunkListsRow.holds Try.pinned (OpenSpec.ofChange Rows.chunkListsSpec) :=
  OpenClaim.holds_of_wide 3 Try.f3 rfl rfl rfl rfl rfl rfl rfl ⟨rfl, rfl, rfl, rfl, rfl⟩ rfl rfl rfl rfl rfl (by kernel_rfl) Try.func3 (by kernel_rfl)
    (of_decide_eq_true (by kernel_rfl)) (by unfold Func.isWrapper; first | (rw [if_pos (by decide +kernel)]; kernel_rfl) | (rw [if_neg (by decide +kernel)]; exact ⟨rfl, rfl⟩))
    (fun os started H enc _ => lifted os started H enc)
theorem proved : Rows.ChunkListsSaid := over
#print axioms proved
end Go.Proofs.Ytkliaoikljjeaaa.chunkLists
namespace Go.Proofs.Ytkliaoikljjeaaa
/-- The row, under a short name, for the claim. -/
theorem chunkLists_holds : Rows.ChunkListsSaid := chunkLists.proved
end Go.Proofs.Ytkliaoikljjeaaa

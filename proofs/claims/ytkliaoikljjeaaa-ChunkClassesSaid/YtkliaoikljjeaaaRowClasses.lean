/-
  The row of ChunkClasses: for every chunk, every array of three slices of strings and every span, in whatever memory, the call returns true and all that it was handed reads as before. No condition.
-/
import Derived.Test.YtkliaoikljjeaaaRows
import Derived.Test.YtkliaoikljjeaaaYe
import Derived.Test.YtkliaoikljjeaaaXl
import Derived.WalkKit
import Derived.ProofKit
import Derived.OpenShut
import Derived.ShutString
import Derived.ChangeOld
import Derived.Below
import Derived.SizedLaws
import Derived.Deep.Slices
import Derived.Laws.IdiomArrays
import Derived.Lib.SmallJoins
import Derived.SliceStrings
namespace Go.Proofs.Ytkliaoikljjeaaa.chunkClasses
open Go.ChangeShapes Go.WideShapes Go.ChangeAt Go.RowKit
open Go.Proofs.YtkliaoikljjeaaaW.PrintWords (Kd.C)
set_option linter.unusedVariables false
theorem own : ownKnob Try.prog.godebug = none := by kernel_rfl
theorem laidOut : laidOutB Try.prog = true := by kernel_rfl
section
variable {H : Type} {enc : TypeId × Value → H} {W : World} {base : Nat} {spare : Nat → Bool} {held : Bool}
/-- A slice of strings that came in reads as a list. -/
theorem open_texts {fuel : Nat} {v : Value} {x : DataW H × List MemPlace} (h : DataW.trod enc Try.prog W base spare held fuel 48 [v] = some x) :
    ∃ (a : Option Addr) (l : List ByteArray) (cap : Nat), v = .slice a l.length cap ∧ l.length ≤ cap ∧ Go.Proofs.YtkliaoikljjeaaaW.PrintWords.Kd.C Go.Proofs.YtkliaoikljjeaaaW.PrintWords.Kd.string W a l.length l := by
  rcases open_strings Try.underlying48 Try.underlying9 (by kernel_rfl) h with ⟨hcs, _⟩ | ⟨ad, len, cap, ss, hcs, _, hl, hm, hlen, _, hat, _⟩
  · simp at hcs
    subst hcs
    exact ⟨none, [], 0, rfl, Nat.le_refl _, Go.Proofs.YtkliaoikljjeaaaW.PrintWords.Kd.C_nil _ _⟩
  · simp at hcs
    subst hcs
    have hle : len ≤ ss.length := by rw [hlen]; split <;> omega
    have hlt : (ss.take len).length = len := by rw [List.length_take]; omega
    refine ⟨some ad, ss.take len, cap, by rw [hlt], by omega, ?_⟩
    refine ⟨rfl, by rw [hlt]; unfold maxLen at hm; omega, fun _ => ⟨ad, rfl, fun j p hj => ?_⟩⟩
    have hj' : j < len := by
      have := (List.getElem?_eq_some_iff.1 hj).1
      omega
    have hp : p = ss.getD j ByteArray.empty := by
      rw [List.getElem?_take, if_pos hj'] at hj
      rw [List.getD_eq_getElem?_getD, hj]
      rfl
    subst hp
    refine ⟨[.string (ss.getD j ByteArray.empty)], rfl, rfl, fun i u hu => ?_⟩
    match i, hu with
    | 0, hu =>
      obtain rfl : Value.string (ss.getD j ByteArray.empty) = u := Option.some.inj hu
      have := hat j (by omega)
      show W.cell? (ad.add (j * 1 + 0)) = _
      rw [Nat.mul_one, Nat.add_zero]
      exact this
theorem okWide_array {P : Program} {r : Reach} {b0 : Nat} {t e : TypeId} {n : Nat} {v : Value} (ht : P.underlying t = some (.array n e)) (h : Value.okWide P W r b0 t v) : ∃ cs, v = .agg cs ∧ cs.size = P.cellsOf t := by
  simp only [Value.okWide, ht] at h
  obtain ⟨cs, h1, h2, _⟩ := h
  exact ⟨cs, h1, h2⟩
/-- An array of three slices of strings. -/
theorem open_three {r : Reach} {b0 : Nat} {v : Value} (hv : Value.okWide Try.prog W r b0 49 v) {fuel : Nat} {x : DataW H × List MemPlace} (h : DataW.trod enc Try.prog W base spare held fuel 49 v.cells.toList = some x) :
    ∃ (A0 : Option Addr) (l0 : List ByteArray) (c0 : Nat) (A1 : Option Addr) (l1 : List ByteArray) (c1 : Nat) (A2 : Option Addr) (l2 : List ByteArray) (c2 : Nat),
      v = .agg #[.slice A0 l0.length c0, .slice A1 l1.length c1, .slice A2 l2.length c2] ∧ l0.length ≤ c0 ∧ Go.Proofs.YtkliaoikljjeaaaW.PrintWords.Kd.C Go.Proofs.YtkliaoikljjeaaaW.PrintWords.Kd.string W A0 l0.length l0 ∧
      l1.length ≤ c1 ∧ Go.Proofs.YtkliaoikljjeaaaW.PrintWords.Kd.C Go.Proofs.YtkliaoikljjeaaaW.PrintWords.Kd.string W A1 l1.length l1 ∧ l2.length ≤ c2 ∧ Go.Proofs.YtkliaoikljjeaaaW.PrintWords.Kd.C Go.Proofs.YtkliaoikljjeaaaW.PrintWords.Kd.string W A2 l2.length l2 := by
  obtain ⟨cs, rfl, hsz⟩ := okWide_array Try.underlying49 hv
  obtain ⟨l⟩ := cs
  have hC : Try.prog.cellsOf 49 = 3 := by kernel_rfl
  match l, hsz.trans hC with
  | [c0, c1, c2], _ =>
    obtain ⟨y0, y1, y2, n, _, g0, g1, g2⟩ := trod_array3 Try.underlying49 (by kernel_rfl) h
    obtain ⟨A0, l0, k0, rfl, p0, q0⟩ := open_texts g0
    obtain ⟨A1, l1, k1, rfl, p1, q1⟩ := open_texts g1
    obtain ⟨A2, l2, k2, rfl, p2, q2⟩ := open_texts g2
    exact ⟨A0, l0, k0, A1, l1, k1, A2, l2, k2, rfl, p0, q0, p1, q1, p2, q2⟩
/-- A span that came in. -/
theorem open_span {c0 c1 : Value} {fuel : Nat} {x : DataW H × List MemPlace} (h : DataW.trod enc Try.prog W base spare held fuel 41 [c0, c1] = some x) : ∃ a b : Int, c0 = .int .i64 a ∧ c1 = .int .i64 b := by
  obtain ⟨y0, y1, n, _, _, g0, g1⟩ := trod_struct2 Try.underlying41 h
  have k3 : Try.prog.cellsOf 3 = 1 := by kernel_rfl
  rw [k3] at g0 g1
  obtain ⟨x0, e0, _, _⟩ := DataW.trod_int Try.underlying3 g0
  obtain ⟨x1, e1, _, _⟩ := DataW.trod_int Try.underlying3 g1
  simp at e0 e1
  exact ⟨x0, x1, e0, e1⟩
theorem open_span_arg {r : Reach} {b0 : Nat} {v : Value} (hv : Value.okWide Try.prog W r b0 41 v) {fuel : Nat} {x : DataW H × List MemPlace} (h : DataW.trod enc Try.prog W base spare held fuel 41 v.cells.toList = some x) :
    ∃ a b : Int, v = .agg #[.int .i64 a, .int .i64 b] := by
  obtain ⟨cs, rfl, hsz⟩ := okWide_struct Try.underlying41 hv
  obtain ⟨l⟩ := cs
  have hC : Try.prog.cellsOf 41 = 2 := by kernel_rfl
  match l, hsz.trans hC with
  | [c0, c1], _ =>
    obtain ⟨a, b, rfl, rfl⟩ := open_span h
    exact ⟨a, b, rfl⟩
/-- A chunk that came in. -/
theorem open_chunk {r : Reach} {b0 : Nat} {v : Value} (hv : Value.okWide Try.prog W r b0 43 v) {fuel : Nat} {x : DataW H × List MemPlace} (h : DataW.trod enc Try.prog W base spare held fuel 43 v.cells.toList = some x) :
    ∃ (st : Bool) (a b c d e f : Int), v = .agg #[.bool st, .int .i64 a, .int .i64 b, .int .i64 c, .int .i64 d, .int .i64 e, .int .i64 f] := by
  obtain ⟨cs, rfl, hsz⟩ := okWide_struct Try.underlying43 hv
  obtain ⟨l⟩ := cs
  have hC : Try.prog.cellsOf 43 = 7 := by kernel_rfl
  match l, hsz.trans hC with
  | [c0, c1, c2, c3, c4, c5, c6], _ =>
    obtain ⟨y0, y1, y2, y3, n, _, _, g0, g1, g2, g3⟩ := Go.Joins.trod_struct4 Try.underlying43 h
    have k4 : Try.prog.cellsOf 4 = 1 := by kernel_rfl
    have k41 : Try.prog.cellsOf 41 = 2 := by kernel_rfl
    rw [k4] at g0
    rw [k41] at g1 g2 g3
    obtain ⟨st, e0, _⟩ := DataW.trod_bool (cs := [c0]) Try.underlying4 g0
    simp at e0
    obtain ⟨a, b, rfl, rfl⟩ := open_span (c0 := c1) (c1 := c2) g1
    obtain ⟨c, d, rfl, rfl⟩ := open_span (c0 := c3) (c1 := c4) g2
    obtain ⟨e, f, rfl, rfl⟩ := open_span (c0 := c5) (c1 := c6) g3
    subst e0
    exact ⟨st, a, b, c, d, e, f, rfl⟩
end
set_option maxHeartbeats 1000000 in
set_option maxRecDepth 100000 in
theorem lifted (os : Os) (started : os.Started) (H : Type) (enc : TypeId × Value → H) :
    ReturnsInHanded {} Try.checked os 4 .any (Rows.chunkClassesSpec.pre6 enc Try.prog Try.f4 Rows.chunkClassesRow.domain false) (Rows.chunkClassesSpec.post enc Try.prog Try.f4 false true false false) := by
  refine returnsInHanded_of_change_sized (C := Try.checked) own started (by kernel_rfl) Try.func4
    (ChangeSpec.witness6 (enc := enc) (C := Try.checked) false ⟨#[], #[.agg #[.bool false, .int .i64 0, .int .i64 0, .int .i64 0, .int .i64 0, .int .i64 0, .int .i64 0], .agg #[.slice none 0 0, .slice none 0 0, .slice none 0 0], .agg #[.int .i64 0, .int .i64 0]], []⟩ 8 (by kernel_rfl) (by kernel_rfl) (by kernel_rfl) (by kernel_rfl)) ?_
  intro W base args ds gs before hval0 hW hcnd hsz0 _
  have hval : ∀ (j : Nat) t v, Try.f4.params[j]? = some t → args[j]? = some v → Value.okWide Try.prog W .any base t v := hval0
  have hW' := hW
  obtain ⟨p, q, hA0, hV, rfl, hfz, hnd⟩ := hW
  have hA : DataW.TrodAll enc Try.prog W 0 (fun _ => true) true Try.f4.params.toList args.toList ds p := hA0
  rw [Try.params4] at hA hval
  obtain ⟨v0, vs0, d0, ds0, p0, q0, hargs, rfl, rfl, h0, r0⟩ := trodAll_cons hA
  obtain ⟨v1, vs1, d1, ds1, p1, q1, rfl, rfl, rfl, h1, r1⟩ := trodAll_cons r0
  obtain ⟨v2, vs2, d2, ds2, p2, q2, rfl, rfl, rfl, h2, r2⟩ := trodAll_cons r1
  obtain ⟨rfl, rfl, rfl⟩ := trodAll_nil r2
  obtain rfl : args = #[v0, v1, v2] := by cases args; simp_all
  obtain ⟨rfl, rfl⟩ := trodVars_none hV
  have k0 := h0
  have lt0 : ∀ x ∈ p0, x.block < W.heap.size := by obtain ⟨m, hm⟩ := k0; exact DataW.trod_lt m _ _ _ hm
  obtain ⟨st, a, b, c, d, e, f, rfl⟩ : ∃ (st : Bool) (a b c d e f : Int), v0 = .agg #[.bool st, .int .i64 a, .int .i64 b, .int .i64 c, .int .i64 d, .int .i64 e, .int .i64 f] := by
    obtain ⟨fuel, hf⟩ := h0
    exact open_chunk (hval 0 43 v0 rfl rfl) hf
  have k1 := h1
  have lt1 : ∀ x ∈ p1, x.block < W.heap.size := by obtain ⟨m, hm⟩ := k1; exact DataW.trod_lt m _ _ _ hm
  obtain ⟨fuel1, hf1⟩ := h1
  obtain ⟨A0, l0, c0, A1, l1, c1, A2, l2, c2, rfl, hc0, hr0, hc1, hr1, hc2, hr2⟩ := open_three (hval 1 49 v1 rfl rfl) hf1
  have k2 := h2
  have lt2 : ∀ x ∈ p2, x.block < W.heap.size := by obtain ⟨m, hm⟩ := k2; exact DataW.trod_lt m _ _ _ hm
  obtain ⟨s0, s1, rfl⟩ : ∃ a b : Int, v2 = .agg #[.int .i64 a, .int .i64 b] := by
    obtain ⟨fuel, hf⟩ := h2
    exact open_span_arg (hval 2 41 v2 rfl rfl) hf
  clear hA0 hval0 hsz0
  obtain ⟨k, hk⟩ := X.ChunkClasses_true st a b c d e f l0 l1 l2 s0 s1
  refine (X.tripartitelaw06_ChunkClasses.calls k st a b c d e f A0 c0 l0 A1 c1 l1 A2 c2 l2 s0 s1 true W hr0 hc0 hr1 hc1 hr2 hc2 hk).mono fun e W' ⟨he, bel⟩ => ?_
  subst he
  exact ⟨_, rfl, _, _, _, [], _, [], hW', trodAll_mk1 (shut_bool Try.underlying4 _), (trodAll_cons_mk (Below.trod laidOut (by kernel_rfl) (of_decide_eq_true (by kernel_rfl)) k0 bel lt0) (trodAll_cons_mk (Below.trod laidOut (by kernel_rfl) (of_decide_eq_true (by kernel_rfl)) k1 bel lt1) (trodAll_cons_mk (Below.trod laidOut (by kernel_rfl) (of_decide_eq_true (by kernel_rfl)) k2 bel lt2) trodAll_mk0))), rfl, bel.frame _, fun h => by cases h⟩
theorem over : Rows.chunkClassesRow.holds Try.pinned (OpenSpec.ofChange Rows.chunkClassesSpec) :=
  OpenClaim.holds_of_wide 4 Try.f4 rfl rfl rfl rfl rfl rfl rfl ⟨rfl, rfl, rfl, rfl, rfl⟩ rfl rfl rfl rfl rfl (by kernel_rfl) Try.func4 (by kernel_rfl)
    (of_decide_eq_true (by kernel_rfl)) (by unfold Func.isWrapper; first | (rw [if_pos (by decide +kernel)]; kernel_rfl) | (rw [if_neg (by decide +kernel)]; exact ⟨rfl, rfl⟩))
    (fun os started H enc _ => lifted os started H enc)
theorem proved : Rows.ChunkClassesSaid := over
#print axioms proved
end Go.Proofs.Ytkliaoikljjeaaa.chunkClasses
namespace Go.Proofs.Ytkliaoikljjeaaa
/-- The row, under a short name, for the claim. -/
theorem chunkClasses_holds : Rows.ChunkClassesSaid := chunkClasses.proved
end Go.Proofs.Ytkliaoikljjeaaa

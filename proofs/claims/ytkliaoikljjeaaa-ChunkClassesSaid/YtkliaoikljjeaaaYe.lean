/-
  Plain law, the end: ChunkClasses answers true for every chunk, all lists of strings and every span.
-/
import Derived.Test.YtkliaoikljjeaaaYd
import Derived.Test.YtkliaoikljjeaaaXn
namespace Go.Proofs.Ytkliaoikljjeaaa.X
open Go.RowKit Go.Proofs.YtkliaoikljjeaaaW.PrintWords Go.Proofs.YtkliaoikljjeaaaW.PrintLast Go.Proofs.YtkliaoikljjeaaaW.PrintMore
theorem cls_range (st : Bool) (x y z : List ByteArray) : cls st x y z = 0 ∨ cls st x y z = 1 ∨ cls st x y z = 2 ∨ cls st x y z = 3 ∨ cls st x y z = 4 := by
  unfold cls
  split
  · simp
  · split
    · simp
    · split
      · simp
      · split <;> simp
section
variable (st : Bool) (a b c d e f : Int) (l m n : List ByteArray) (hl : l.length ≤ 1000) (hm : m.length ≤ 1000) (hn : n.length ≤ 1000)
include hl hm hn
theorem j2_false : Ev (fun k => tripartitelaw06_ChunkClasses.j2 k l m n false st a b c d e f st a b c d e f) true := by
  obtain ⟨k1, h1⟩ := Class_ev st a b c d e f l m n hl hm hn
  obtain ⟨k2, h2⟩ := Class_ev st a b e f c d l n m hl hn hm
  obtain ⟨k3, h3⟩ := refClass_ev st a b c d e f l m n hl hm
  obtain ⟨k4, h4⟩ := refSame_ev (cut a b l) (cut c d m) (by have := cut_len a b l; omega)
  obtain ⟨k5, h5⟩ := refSame_ev (cut a b l) (cut e f n) (by have := cut_len a b l; omega)
  refine cTo (f := fun k => (fun k => (tripartitelaw06_ChunkClasses.j2 (k + 1) l m n false st a b c d e f st a b c d e f)) k) (fun k => rfl) ?_
  refine ⟨max k1 (max k2 (max k3 (max k4 k5))), fun k hk => ?_⟩
  have e1 := h1 k (by omega)
  have e2 := h2 k (by omega)
  have e3 := h3 k (by omega)
  have e4 := h4 k (by omega)
  have e5 := h5 k (by omega)
  show tripartitelaw06_ChunkClasses.j2 (k + 1) l m n false st a b c d e f st a b c d e f = some true
  simp only [tripartitelaw06_ChunkClasses.j2, chunk_Chunk_Turned.f, Option.bind_some, Cut_eq]
  dsimp only at e1 e2 e3 e4 e5
  rw [if_neg (by decide), e1]
  simp only [Option.bind_some]
  rw [e2]
  simp only [Option.bind_some]
  rw [e3]
  simp only [Option.bind_some, e4, e5]
  have hr := cls_range st (cut a b l) (cut c d m) (cut e f n)
  rw [if_pos trivial, if_pos (by omega), if_pos (by simp; omega)]
  cases st with
  | true => simp [cls, rd]
  | false =>
    rw [if_neg (by decide)]
    by_cases p : eqv (cut a b l) (cut c d m) = true
    · rw [if_pos p]
      by_cases q : eqv (cut a b l) (cut e f n) = true
      · rw [if_pos q]
        simp [cls, q]
      · rw [if_neg q]
        simp [cls, p, q, rd]
    · rw [if_neg p]
      by_cases q : eqv (cut a b l) (cut e f n) = true
      · simp [cls, p, q, rd]
      · by_cases u : eqv (cut c d m) (cut e f n) = true
        · have u' : eqv (cut e f n) (cut c d m) = true := by rw [eqv_symm]; exact u
          simp [cls, p, q, u, u', rd]
        · have u' : ¬ eqv (cut e f n) (cut c d m) = true := by rw [eqv_symm]; exact u
          simp [cls, p, q, u, u', rd]
omit hl hm hn in
theorem j2_true : Ev (fun k => tripartitelaw06_ChunkClasses.j2 k l m n true st a b c d e f st a b c d e f) true := by
  refine cEnd (fun k => ?_)
  simp only [tripartitelaw06_ChunkClasses.j2]
  rw [if_pos trivial]
theorem l0_end (ys : List S41) (i : Int) (hi : (ys.length : Int) ≤ i) : Ev (fun k => tripartitelaw06_ChunkClasses.l0 k l m n ys (ys.length : Int) i st a b c d e f st a b c d e f) true := by
  by_cases h1 : b > (l.length : Int)
  · refine cTo (f := fun k => tripartitelaw06_ChunkClasses.j2 k l m n true st a b c d e f st a b c d e f) (fun k => ?_) (j2_true st a b c d e f l m n)
    simp only [tripartitelaw06_ChunkClasses.l0]
    rw [if_neg (by omega), if_pos h1]
  · by_cases h2 : d > (m.length : Int)
    · refine cTo (f := fun k => tripartitelaw06_ChunkClasses.j2 k l m n true st a b c d e f st a b c d e f) (fun k => ?_) (j2_true st a b c d e f l m n)
      simp only [tripartitelaw06_ChunkClasses.l0]
      rw [if_neg (by omega), if_neg h1, if_pos h2]
    · by_cases h3 : f > (n.length : Int)
      · refine cTo (f := fun k => tripartitelaw06_ChunkClasses.j2 k l m n true st a b c d e f st a b c d e f) (fun k => ?_) (j2_true st a b c d e f l m n)
        simp only [tripartitelaw06_ChunkClasses.l0]
        rw [if_neg (by omega), if_neg h1, if_neg h2, decide_eq_true h3]
      · refine cTo (f := fun k => tripartitelaw06_ChunkClasses.j2 k l m n false st a b c d e f st a b c d e f) (fun k => ?_) (j2_false st a b c d e f l m n hl hm hn)
        simp only [tripartitelaw06_ChunkClasses.l0]
        rw [if_neg (by omega), if_neg h1, if_neg h2, decide_eq_false h3]
theorem l0_ev (ys : List S41) (hy : ys.length ≤ 1000) (q : Nat) : ∀ i : Nat, i + q = ys.length → Ev (fun k => tripartitelaw06_ChunkClasses.l0 k l m n ys (ys.length : Int) (i : Int) st a b c d e f st a b c d e f) true := by
  induction q with
  | zero => exact fun i hi => l0_end st a b c d e f l m n hl hm hn ys (i : Int) (by omega)
  | succ q ih =>
    intro i hi
    by_cases h1 : (rd_T41 ys (i : Int)).f0 < 0
    · refine cEnd (fun k => ?_)
      simp only [tripartitelaw06_ChunkClasses.l0]
      rw [if_pos (by omega), if_pos (by omega), if_pos (by omega), if_pos h1]
    · by_cases h2 : (rd_T41 ys (i : Int)).f1 < (rd_T41 ys (i : Int)).f0
      · refine cEnd (fun k => ?_)
        simp only [tripartitelaw06_ChunkClasses.l0]
        rw [if_pos (by omega), if_pos (by omega), if_pos (by omega), if_neg h1, if_pos h2]
      · refine cTo (f := fun k => tripartitelaw06_ChunkClasses.l0 k l m n ys (ys.length : Int) ((i + 1 : Nat) : Int) st a b c d e f st a b c d e f) (fun k => ?_) (ih (i + 1) (by omega))
        simp only [tripartitelaw06_ChunkClasses.l0]
        rw [if_pos (by omega), if_pos (by omega), if_pos (by omega), if_neg h1, if_neg h2, cwr (by omega) (by omega)]
        rfl
theorem j0_ev : Ev (fun k => tripartitelaw06_ChunkClasses.j0 k l m n false st a b c d e f st a b c d e f) true := by
  refine cTo (f := fun k => tripartitelaw06_ChunkClasses.l0 k l m n [⟨a, b⟩, ⟨c, d⟩, ⟨e, f⟩] (([⟨a, b⟩, ⟨c, d⟩, ⟨e, f⟩] : List S41).length : Int) ((0 : Nat) : Int) st a b c d e f st a b c d e f) (fun k => ?_)
    (l0_ev st a b c d e f l m n hl hm hn [⟨a, b⟩, ⟨c, d⟩, ⟨e, f⟩] (by simp) 3 0 rfl)
  simp only [tripartitelaw06_ChunkClasses.j0]
  rw [if_neg (by decide)]
  rfl
end
theorem mn_le (x y : Int) : mn x y ≤ x ∧ mn x y ≤ y := by unfold mn; split <;> omega
theorem mn_nonneg {x y : Int} (hx : 0 ≤ x) (hy : 0 ≤ y) : 0 ≤ mn x y := by unfold mn; split <;> omega
/-- The law answers true. -/
theorem ChunkClasses_true (a0_0 : Bool) (a0_1 a0_2 a0_3 a0_4 a0_5 a0_6 : Int) (l1_0 l1_1 l1_2 : List ByteArray) (a2_0 a2_1 : Int) :
    ∃ k, tripartitelaw06_ChunkClasses.f k a0_0 a0_1 a0_2 a0_3 a0_4 a0_5 a0_6 l1_0 l1_1 l1_2 a2_0 a2_1 = some true := by
  have len : ∀ l : List ByteArray, (l.take ((mn (l.length : Int) 60) : Int).toNat).length ≤ 1000 := fun l => by
    rw [List.length_take]
    have := mn_le (l.length : Int) 60
    omega
  have nn : ∀ l : List ByteArray, 0 ≤ mn (l.length : Int) 60 := fun l => mn_nonneg (by omega) (by omega)
  have le : ∀ l : List ByteArray, mn (l.length : Int) 60 ≤ (l.length : Int) := fun l => (mn_le _ _).1
  have hl := len l1_0
  have hm := len l1_1
  have hn := len l1_2
  obtain ⟨k1, h1⟩ := ctold_ev
  obtain ⟨k2, h2⟩ := j0_ev a0_0 a0_1 a0_2 a0_3 a0_4 a0_5 a0_6 _ _ _ hl hm hn
  obtain ⟨k3, h3⟩ := refSame_ev (cut a2_0 a2_1 (l1_0.take ((mn (l1_0.length : Int) 60) : Int).toNat)) (cut a2_0 a2_1 (l1_0.take ((mn (l1_0.length : Int) 60) : Int).toNat)) (by have := cut_len a2_0 a2_1 (l1_0.take ((mn (l1_0.length : Int) 60) : Int).toNat); omega)
  refine ⟨max k1 (max k2 k3), ?_⟩
  generalize hk : max k1 (max k2 k3) = k
  have e1 := h1 k (by omega)
  have e2 := h2 k (by omega)
  have e3 := h3 k (by omega)
  dsimp only at e1 e2 e3
  rw [eqv_refl] at e3
  unfold tripartitelaw06_ChunkClasses.f
  rw [if_pos (nn _), if_pos (le _), if_pos (nn _), if_pos (le _), if_pos (nn _), if_pos (le _)]
  simp only [tripartitelaw06_To.f, Option.bind_some]
  rw [e1]
  simp only [Option.bind_some]
  rw [if_pos trivial, SpanCut_eq _ _ _ hl, Cut_eq]
  simp only [Option.bind_some]
  rw [e3]
  simp only [Option.bind_some]
  rw [if_pos trivial]
  unfold chunk_Span_Len.f
  by_cases c1 : a2_1 ≤ a2_0
  · simp only [if_pos c1, Option.bind_some]
    have e2' : tripartitelaw06_ChunkClasses.j0 k (l1_0.take ((mn (l1_0.length : Int) 60) : Int).toNat) (l1_1.take ((mn (l1_1.length : Int) 60) : Int).toNat) (l1_2.take ((mn (l1_2.length : Int) 60) : Int).toNat) ((0 : Int) != 0) a0_0 a0_1 a0_2 a0_3 a0_4 a0_5 a0_6 a0_0 a0_1 a0_2 a0_3 a0_4 a0_5 a0_6 = some true := e2
    split
    · split
      · rw [if_pos (by have : a2_1 - a2_0 = 0 := by omega
                       rw [this, cwr (by omega) (by omega)])]
        exact e2'
      · exact e2'
    · exact e2'
  · simp only [if_neg c1, Option.bind_some]
    split
    · split
      · rw [if_pos trivial]
        exact e2
      · exact e2
    · exact e2
end Go.Proofs.Ytkliaoikljjeaaa.X

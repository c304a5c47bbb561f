/-
  Plain law: ChunkClasses answers true for every chunk, all lists of strings and every span.
-/
import Derived.Test.YtkliaoikljjeaaaXg
import Derived.Test.YtkliaoikljjeaaaXm
import Derived.KernelRfl
namespace Go.Proofs.Ytkliaoikljjeaaa.X
open Go.RowKit Go.Proofs.YtkliaoikljjeaaaW.PrintWords Go.Proofs.YtkliaoikljjeaaaW.PrintLast Go.Proofs.YtkliaoikljjeaaaW.PrintMore
theorem cwr {x : Int} (h0 : -100000 ≤ x) (h1 : x ≤ 100000) : wrap64 x = x := by unfold wrap64; omega
theorem cEnd {α : Type} {g : Nat → Option α} {r : α} (h : ∀ k, g (k + 1) = some r) : Ev g r := Ev.step (f := fun _ => some r) h (Ev.now _)
theorem cTo {α : Type} {g f : Nat → Option α} {r : α} (h : ∀ k, g (k + 1) = f k) (k : Ev f r) : Ev g r := Ev.step h k
/-- What a list has from a on up to b. -/
def cut (a b : Int) (l : List ByteArray) : List ByteArray := if a < 0 then [] else if b > (l.length : Int) then [] else if b < a then [] else (l.take b.toNat).drop a.toNat
theorem cut_len (a b : Int) (l : List ByteArray) : (cut a b l).length ≤ l.length := by
  unfold cut
  split
  · simp
  · split
    · simp
    · split
      · simp
      · rw [List.length_drop, List.length_take]
        omega
theorem Cut_eq (a b : Int) (l : List ByteArray) : tripartiteref06_Cut.f a b l = some (cut a b l) := by
  unfold tripartiteref06_Cut.f cut
  split
  · rfl
  · split
    · rfl
    · split
      · rfl
      · rw [if_pos (by omega), if_pos (by omega), if_pos (by omega)]
theorem SpanCut_eq (a b : Int) (l : List ByteArray) (hl : l.length ≤ 1000) : chunk_Span_Cut.f a b l = some (cut a b l) := by
  unfold chunk_Span_Cut.f cut
  split
  · rfl
  · split
    · rfl
    · split
      · rfl
      · rw [if_pos (by omega), if_pos (by omega), if_pos (by omega)]
        unfold slices_Clone_string_string.f
        rw [if_pos (by rw [List.length_drop, List.length_take]; omega)]
        rfl
/-- Are two lists of strings the same? -/
def eqv : List ByteArray → List ByteArray → Bool
  | [], [] => true
  | x :: xs, y :: ys => decide (x.toList = y.toList) && eqv xs ys
  | _, _ => false
theorem eqv_refl : ∀ l : List ByteArray, eqv l l = true
  | [] => rfl
  | x :: xs => by simp [eqv, eqv_refl xs]
theorem eqv_symm : ∀ l m : List ByteArray, eqv l m = eqv m l
  | [], [] => rfl
  | [], _ :: _ => rfl
  | _ :: _, [] => rfl
  | x :: xs, y :: ys => by
    simp only [eqv, eqv_symm xs ys]
    congr 1
    exact decide_eq_decide.mpr ⟨Eq.symm, Eq.symm⟩
theorem eqv_trans : ∀ a b c : List ByteArray, eqv a b = true → eqv b c = true → eqv a c = true
  | [], [], [] => fun _ _ => rfl
  | [], [], _ :: _ => fun _ h => by simp [eqv] at h
  | [], _ :: _, _ => fun h _ => by simp [eqv] at h
  | _ :: _, [], _ => fun h _ => by simp [eqv] at h
  | _ :: _, _ :: _, [] => fun _ h => by simp [eqv] at h
  | x :: xs, y :: ys, z :: zs => fun h k => by
    simp only [eqv, Bool.and_eq_true, decide_eq_true_eq] at h k ⊢
    exact ⟨h.1.trans k.1, eqv_trans xs ys zs h.2 k.2⟩
theorem eqv_len : ∀ l m : List ByteArray, eqv l m = true → l.length = m.length
  | [], [] => fun _ => rfl
  | [], _ :: _ => fun h => by simp [eqv] at h
  | _ :: _, [] => fun h => by simp [eqv] at h
  | x :: xs, y :: ys => fun h => by
    simp only [eqv, Bool.and_eq_true] at h
    simp [eqv_len xs ys h.2]
theorem rdOf_at (l : List ByteArray) (i : Nat) (h : i < l.length) : rdOf ByteArray.empty l (i : Int) = l[i] := by
  unfold rdOf
  rw [Int.toNat_natCast, List.getD_eq_getElem?_getD, List.getElem?_eq_getElem h]
  rfl
theorem refSame_loop (x y : List ByteArray) (hx : x.length ≤ 1000) (hxy : x.length = y.length) (d : Nat) : ∀ i : Nat, i + d = x.length → Ev (fun k => tripartiteref01_Same.l0 k x y (i : Int)) (eqv (x.drop i) (y.drop i)) := by
  induction d with
  | zero =>
    intro i hi
    rw [List.drop_eq_nil_of_le (by omega), List.drop_eq_nil_of_le (by omega)]
    refine cEnd (fun k => ?_)
    simp only [tripartiteref01_Same.l0]
    rw [if_neg (by omega)]
    rfl
  | succ d ih =>
    intro i hi
    have h1 : i < x.length := by omega
    have h2 : i < y.length := by omega
    rw [List.drop_eq_getElem_cons h1, List.drop_eq_getElem_cons h2]
    by_cases hc : (x[i]).toList = (y[i]).toList
    · refine cTo (f := fun k => tripartiteref01_Same.l0 k x y ((i + 1 : Nat) : Int)) (fun k => ?_) ?_
      · simp only [tripartiteref01_Same.l0]
        rw [if_pos (by omega), if_pos (by omega), if_pos (by omega), rdOf_at x i h1, rdOf_at y i h2, if_pos hc, cwr (by omega) (by omega)]
        rfl
      · have := ih (i + 1) (by omega)
        simp only [eqv, hc, decide_true, Bool.true_and]
        exact this
    · refine cEnd (fun k => ?_)
      simp only [tripartiteref01_Same.l0]
      rw [if_pos (by omega), if_pos (by omega), if_pos (by omega), rdOf_at x i h1, rdOf_at y i h2, if_neg hc]
      simp [eqv, hc]
theorem refSame_ev (x y : List ByteArray) (hx : x.length ≤ 1000) : Ev (fun k => tripartiteref01_Same.f k x y) (eqv x y) := by
  by_cases h : x.length = y.length
  · have := refSame_loop x y hx h x.length 0 (by omega)
    refine Ev.congr (fun k => ?_) this
    unfold tripartiteref01_Same.f
    rw [if_pos (by omega)]
    rfl
  · have : eqv x y = false := by
      cases e : eqv x y with
      | false => rfl
      | true => exact absurd (eqv_len x y e) h
    rw [this]
    refine ⟨0, fun k _ => ?_⟩
    show tripartiteref01_Same.f k x y = _
    unfold tripartiteref01_Same.f
    rw [if_neg (by omega)]
theorem trimSame_loop (x y : List ByteArray) (hx : x.length ≤ 1000) (hxy : x.length = y.length) (d : Nat) : ∀ i : Nat, i + d = x.length → Ev (fun k => slices_Equal_string_string.l0 k x y (x.length : Int) (i : Int)) (eqv (x.drop i) (y.drop i)) := by
  induction d with
  | zero =>
    intro i hi
    rw [List.drop_eq_nil_of_le (by omega), List.drop_eq_nil_of_le (by omega)]
    refine cEnd (fun k => ?_)
    simp only [slices_Equal_string_string.l0]
    rw [if_neg (by omega)]
    rfl
  | succ d ih =>
    intro i hi
    have h1 : i < x.length := by omega
    have h2 : i < y.length := by omega
    rw [List.drop_eq_getElem_cons h1, List.drop_eq_getElem_cons h2]
    by_cases hc : (x[i]).toList = (y[i]).toList
    · refine cTo (f := fun k => slices_Equal_string_string.l0 k x y (x.length : Int) ((i + 1 : Nat) : Int)) (fun k => ?_) ?_
      · simp only [slices_Equal_string_string.l0]
        rw [if_pos (by omega), if_pos (by omega), if_pos (by omega), if_pos (by omega), rdOf_at x i h1, rdOf_at y i h2, if_pos hc, cwr (by omega) (by omega)]
        rfl
      · have := ih (i + 1) (by omega)
        simp only [eqv, hc, decide_true, Bool.true_and]
        exact this
    · refine cEnd (fun k => ?_)
      simp only [slices_Equal_string_string.l0]
      rw [if_pos (by omega), if_pos (by omega), if_pos (by omega), if_pos (by omega), rdOf_at x i h1, rdOf_at y i h2, if_neg hc]
      simp [eqv, hc]
theorem trimSame_ev (x y : List ByteArray) (hx : x.length ≤ 1000) : Ev (fun k => trim_Same_string.f k x y) (eqv x y) := by
  by_cases h : x.length = y.length
  · have := trimSame_loop x y hx h x.length 0 (by omega)
    refine Ev.congr (fun k => ?_) this
    unfold trim_Same_string.f slices_Equal_string_string.f
    rw [if_pos (by omega)]
    simp
  · have : eqv x y = false := by
      cases e : eqv x y with
      | false => rfl
      | true => exact absurd (eqv_len x y e) h
    rw [this]
    refine ⟨0, fun k _ => ?_⟩
    show trim_Same_string.f k x y = _
    unfold trim_Same_string.f slices_Equal_string_string.f
    rw [if_neg (by omega)]
    rfl
/-- What a chunk is. -/
def cls (st : Bool) (x y z : List ByteArray) : Int := if st = true then 0 else if eqv x y = true then 2 else if eqv x z = true then 1 else if eqv y z = true then 3 else 4
theorem Class_ev (st : Bool) (a b c d e f : Int) (l m n : List ByteArray) (hl : l.length ≤ 1000) (hm : m.length ≤ 1000) (hn : n.length ≤ 1000) :
    Ev (fun k => chunk_Chunk_Class.f k st a b c d e f l m n) (cls st (cut a b l) (cut c d m) (cut e f n)) := by
  obtain ⟨k1, h1⟩ := trimSame_ev (cut a b l) (cut c d m) (by have := cut_len a b l; omega)
  obtain ⟨k2, h2⟩ := trimSame_ev (cut a b l) (cut e f n) (by have := cut_len a b l; omega)
  obtain ⟨k3, h3⟩ := trimSame_ev (cut c d m) (cut e f n) (by have := cut_len c d m; omega)
  refine ⟨max k1 (max k2 k3), fun k hk => ?_⟩
  have e1 := h1 k (by omega)
  have e2 := h2 k (by omega)
  have e3 := h3 k (by omega)
  show chunk_Chunk_Class.f k st a b c d e f l m n = _
  unfold chunk_Chunk_Class.f cls
  rw [SpanCut_eq a b l hl, SpanCut_eq c d m hm, SpanCut_eq e f n hn]
  simp only [Option.bind_some, e1, e2, e3]
  split
  · rfl
  · split
    · rfl
    · split
      · rfl
      · split <;> rfl
theorem refClass_ev (st : Bool) (a b c d e f : Int) (l m n : List ByteArray) (hl : l.length ≤ 1000) (hm : m.length ≤ 1000) :
    Ev (fun k => tripartiteref06_Class.f k st a b c d e f l m n) (cls st (cut a b l) (cut c d m) (cut e f n)) := by
  obtain ⟨k1, h1⟩ := refSame_ev (cut a b l) (cut c d m) (by have := cut_len a b l; omega)
  obtain ⟨k2, h2⟩ := refSame_ev (cut a b l) (cut e f n) (by have := cut_len a b l; omega)
  obtain ⟨k3, h3⟩ := refSame_ev (cut c d m) (cut e f n) (by have := cut_len c d m; omega)
  refine ⟨max k1 (max k2 k3), fun k hk => ?_⟩
  have e1 := h1 k (by omega)
  have e2 := h2 k (by omega)
  have e3 := h3 k (by omega)
  show tripartiteref06_Class.f k st a b c d e f l m n = _
  unfold tripartiteref06_Class.f cls
  rw [Cut_eq a b l, Cut_eq c d m, Cut_eq e f n]
  simp only [Option.bind_some, e1, e2, e3]
  split
  · rfl
  · split
    · rfl
    · split
      · rfl
      · split <;> rfl
theorem ctold_k : tripartitelaw06_told.f 30 = some true := by kernel_rfl
theorem ctold_ev : Ev (fun k => tripartitelaw06_told.f k) true := Ev.of (fun k => tripartitelaw06_told.mono k) ctold_k
end Go.Proofs.Ytkliaoikljjeaaa.X

/-
  Plain law, part 3: ChunkLists answers true for all numbers and all Pairs.
-/
import Derived.Test.YtkliaoikljjeaaaYb
import Derived.Test.YtkliaoikljjeaaaXi
import Derived.KernelRfl
namespace Go.Proofs.Ytkliaoikljjeaaa.X
open Go.RowKit Go.Proofs.YtkliaoikljjeaaaW.PrintWords Go.Proofs.YtkliaoikljjeaaaW.PrintLast Go.Proofs.YtkliaoikljjeaaaW.PrintMore

theorem rd40_at (l : List S40) (i : Nat) (h : i < l.length) : rd_T40 l (i : Int) = l[i] := by
  unfold rd_T40
  rw [Int.toNat_natCast, List.getD_eq_getElem?_getD, List.getElem?_eq_getElem h]
  rfl
theorem rd43_at (l : List S43) (i : Nat) (h : i < l.length) : rd_T43 l (i : Int) = l[i] := by
  unfold rd_T43
  rw [Int.toNat_natCast, List.getD_eq_getElem?_getD, List.getElem?_eq_getElem h]
  rfl
theorem From_loop (l : List S40) (hl : l.length ≤ 1000) (d : Nat) : ∀ (i : Nat) (out : List S43), i + d = l.length → out.length ≤ i → Ev (fun k => tripartitelaw06_From.l0 k l out (i : Int)) (out ++ (l.drop i).map cc) := by
  induction d with
  | zero =>
    intro i out hi ho
    refine evEnd (fun k => ?_)
    simp only [tripartitelaw06_From.l0]
    rw [if_neg (by omega), List.drop_eq_nil_of_le (by omega)]
    simp
  | succ d ih =>
    intro i out hi ho
    have hlt : i < l.length := by omega
    refine evTo (ih (i + 1) (out ++ [cc l[i]]) (by omega) (by simp; omega)) (fun k => ?_) ?_
    · simp only [tripartitelaw06_From.l0, tripartitelaw06_one.f, tripartitelaw06_span.f, Option.bind_some]
      rw [if_pos (by omega), if_pos (by omega), if_pos (by omega), wr (by omega) (by omega), rd40_at l i hlt]
      rfl
    · rw [List.drop_eq_getElem_cons hlt, List.map_cons, List.append_assoc]
      rfl
theorem From_ev (l : List S40) (hl : l.length ≤ 1000) : Ev (fun k => tripartitelaw06_From.f k l) (l.map cc) := by
  have h := From_loop l hl l.length 0 [] (by omega) (by simp)
  simpa [tripartitelaw06_From.f] using h
theorem Same_loop (l : List S43) (hl : l.length ≤ 1000) (d : Nat) : ∀ i : Nat, i + d = l.length → Ev (fun k => tripartitelaw06_Same.l0 k l l (i : Int)) true := by
  induction d with
  | zero =>
    intro i hi
    refine evEnd (fun k => ?_)
    simp only [tripartitelaw06_Same.l0]
    rw [if_neg (by omega)]
  | succ d ih =>
    intro i hi
    refine evTo (ih (i + 1) (by omega)) (fun k => ?_) rfl
    simp only [tripartitelaw06_Same.l0]
    rw [if_pos (by omega), if_pos (by omega), if_pos (by omega), wr (by omega) (by omega)]
    simp
theorem Same_ev (l : List S43) (hl : l.length ≤ 1000) : Ev (fun k => tripartitelaw06_Same.f k l l) true := by
  have h := Same_loop l hl l.length 0 (by omega)
  refine Ev.congr (fun k => ?_) h
  unfold tripartitelaw06_Same.f
  rw [if_pos rfl]
  rfl
theorem told_k : tripartitelaw06_told.f 30 = some true := by kernel_rfl
theorem told_ev : Ev (fun k => tripartitelaw06_told.f k) true := Ev.of (fun k => tripartitelaw06_told.mono k) told_k
theorem small_some (a : Int) : ∃ n, tripartitelaw06_small.f a = some n ∧ -1 ≤ n ∧ n ≤ 60 := by
  unfold tripartitelaw06_small.f
  by_cases h : a > 60
  · rw [if_pos h]
    refine ⟨_, rfl, ?_, ?_⟩
    · rw [Int.tmod_eq_emod_of_nonneg (by omega)]; omega
    · rw [Int.tmod_eq_emod_of_nonneg (by omega)]; omega
  · rw [if_neg h]
    refine ⟨_, rfl, ?_, ?_⟩ <;> (unfold mx; split <;> omega)

/-- Two numbers that are none, or Pairs that don't fit. -/
def okAll (base left right : Int) (l r : List S65) : Bool := okIn base left l && okIn base right r
theorem okIn_iff (a b : Int) (l : List S65) : okIn a b l = true ↔ 0 ≤ a ∧ 0 ≤ b ∧ riseB a b (-1) (-1) l = true := by simp [okIn]
section
variable {base left right : Int} {l r : List S65}
theorem Of_split {x1 x2 : List Int × Bool} {R : List S40 × Int} (h1 : Ev (fun k => chunk_table.f k base left (l.map cv)) x1) (h2 : Ev (fun k => chunk_table.f k base right (r.map cv)) x2)
    (h : Ev (fun k => if x1.2 = true then (if x2.2 = true then ((chunk_OfL.f k base left right x1.1 x2.1 x1.1 x2.1 0 0 0).bind fun q => (some (q.1, q.2.1))) else (some (([] : List S40), 12))) else (some (([] : List S40), 12))) R) : Ev (fun k => chunk_Of.f k base left right (l.map cv) (r.map cv)) R := by
  have h' := Ev.bind (f := fun k bt1 => ((chunk_table.f k base right (r.map cv)).bind fun bt2 => (if bt1.2 = true then (if bt2.2 = true then ((chunk_OfL.f k base left right bt1.1 bt2.1 bt1.1 bt2.1 0 0 0).bind fun q => (some (q.1, q.2.1))) else (some (([] : List S40), 12))) else (some (([] : List S40), 12))))) h1
    (Ev.bind (f := fun k bt2 => (if x1.2 = true then (if bt2.2 = true then ((chunk_OfL.f k base left right x1.1 bt2.1 x1.1 bt2.1 0 0 0).bind fun q => (some (q.1, q.2.1))) else (some (([] : List S40), 12))) else (some (([] : List S40), 12)))) h2 h)
  exact h'
theorem Of_bad (hl : l.length ≤ 1000) (hr : r.length ≤ 1000) (hb : base ≤ 1000) (h : okAll base left right l r = false) : Ev (fun k => chunk_Of.f k base left right (l.map cv) (r.map cv)) ([], 12) := by
  have h1 := table_ev base left l hl hb
  have h2 := table_ev base right r hr hb
  unfold okAll at h
  cases e1 : okIn base left l with
  | false =>
    rw [e1, if_neg (by decide)] at h1
    cases e2 : okIn base right r with
    | false =>
      rw [e2, if_neg (by decide)] at h2
      refine Of_split h1 h2 (evc fun k => ?_)
      rw [if_neg (by decide)]
    | true =>
      rw [e2, if_pos rfl] at h2
      refine Of_split h1 h2 (evc fun k => ?_)
      rw [if_neg (by decide)]
  | true =>
    rw [e1, if_pos rfl] at h1
    rw [e1, Bool.true_and] at h
    rw [h, if_neg (by decide)] at h2
    refine Of_split h1 h2 (evc fun k => ?_)
    rw [if_pos rfl, if_neg (by decide)]
theorem ranged_of (h : okIn base left l = true) : Ranged (fnd l) left := fun i => fnd_range base left l (-1) (-1) i ((okIn_iff _ _ _).1 h).2.2 (by omega)
theorem rep_rd (n : Nat) (i : Int) (h0 : 0 ≤ i) (h1 : i < n) : rd (List.replicate n (-1)) i = -1 := by
  unfold rd
  rw [List.getD_eq_getElem?_getD, List.getElem?_replicate, if_pos (by omega)]
  rfl
theorem Of_good (hl : l.length ≤ 1000) (hr : r.length ≤ 1000) (hb : base ≤ 100) (hleft : left ≤ 100) (hright : right ≤ 100) (h : okAll base left right l r = true) {cs : List S40} (hrun : Run (fnd l) (fnd r) base left right 0 0 0 cs) (hcs : cs.length ≤ 1000) :
    Ev (fun k => chunk_Of.f k base left right (l.map cv) (r.map cv)) (cs, 0) := by
  have h1 := table_ev base left l hl (by omega)
  have h2 := table_ev base right r hr (by omega)
  obtain ⟨e1, e2⟩ := Bool.and_eq_true_iff.1 (show (okIn base left l && okIn base right r) = true from h)
  rw [e1, if_pos rfl] at h1
  rw [e2, if_pos rfl] at h2
  obtain ⟨b0, l0, k1⟩ := (okIn_iff _ _ _).1 e1
  obtain ⟨_, r0, k2⟩ := (okIn_iff _ _ _).1 e2
  have hX : ((tab (List.replicate base.toNat (-1)) l).length : Int) = base := by rw [tab_length]; simp; omega
  have hY : ((tab (List.replicate base.toNat (-1)) r).length : Int) = base := by rw [tab_length]; simp; omega
  obtain ⟨q3, q4, q5, h3⟩ := OfL_run hX hY (fun i h0 h1 => tab_rd base left l _ (-1) (-1) i k1 (by omega) (by simp; omega) h0 h1 (rep_rd _ _ h0 (by omega)))
    (fun i h0 h1 => tab_rd base right r _ (-1) (-1) i k2 (by omega) (by simp; omega) h0 h1 (rep_rd _ _ h0 (by omega))) (ranged_of e1) (ranged_of e2) hrun [] ⟨by omega, by omega, by omega, by omega, by omega, by omega, hb, hleft, hright⟩ (by simpa using hcs)
  refine Of_split h1 h2 (Ev.congr (fun k => ?_) (Ev.bind (f := fun _ (q : List S40 × Int × Int × Int × Int) => some (q.1, q.2.1)) h3 (Ev.now _)))
  rw [if_pos rfl, if_pos rfl]
  rfl
theorem ref_bad (hl : l.length ≤ 1000) (hr : r.length ≤ 1000) (h : okAll base left right l r = false) : Ev (fun k => tripartiteref06_Of.f k base left right l r) ([], false) := by
  have hj : Ev (fun k => tripartiteref06_Of.j0 k base left right l r true) ([], false) := evEnd (fun k => by simp only [tripartiteref06_Of.j0]; rw [if_pos trivial])
  by_cases h0 : base < 0
  · exact Ev.congr (fun k => by unfold tripartiteref06_Of.f; rw [if_pos h0]) hj
  · by_cases h1 : left < 0
    · exact Ev.congr (fun k => by unfold tripartiteref06_Of.f; rw [if_neg h0, if_pos h1]) hj
    · by_cases h2 : right < 0
      · exact Ev.congr (fun k => by unfold tripartiteref06_Of.f; rw [if_neg h0, if_neg h1, if_pos h2]) hj
      · have e1 : okIn base left l = riseB base left (-1) (-1) l := by unfold okIn; rw [decide_eq_true (by omega : 0 ≤ base), decide_eq_true (by omega : 0 ≤ left), Bool.true_and, Bool.true_and]
        have e2 : okIn base right r = riseB base right (-1) (-1) r := by unfold okIn; rw [decide_eq_true (by omega : 0 ≤ base), decide_eq_true (by omega : 0 ≤ right), Bool.true_and, Bool.true_and]
        unfold okAll at h
        rw [e1, e2] at h
        have g1 := rises_ev base left l hl
        have g2 := rises_ev base right r hr
        refine Ev.congr (fun k => ?_) (Ev.bind (f := fun k t138 => (if t138 = true then ((tripartiteref06_rises.f k base right r).bind fun t139 => (tripartiteref06_Of.j0 k base left right l r (!t139))) else (tripartiteref06_Of.j0 k base left right l r true))) g1 ?_)
        · unfold tripartiteref06_Of.f
          rw [if_neg h0, if_neg h1, if_neg h2]
        · cases q : riseB base left (-1) (-1) l with
          | false => exact Ev.congr (fun k => if_neg (by decide)) hj
          | true =>
            rw [q, Bool.true_and] at h
            rw [h] at g2
            exact Ev.congr (fun k => if_pos rfl) (Ev.bind g2 hj)
theorem ref_good (hl : l.length ≤ 1000) (hr : r.length ≤ 1000) (hb : base ≤ 100) (hleft : left ≤ 100) (hright : right ≤ 100) (h : okAll base left right l r = true) {cs : List S40} (hrun : Run (fnd l) (fnd r) base left right 0 0 0 cs) (hcs : cs.length ≤ 1000) :
    Ev (fun k => tripartiteref06_Of.f k base left right l r) (cs.map cc, true) := by
  obtain ⟨e1, e2⟩ := Bool.and_eq_true_iff.1 (show (okIn base left l && okIn base right r) = true from h)
  obtain ⟨b0, l0, k1⟩ := (okIn_iff _ _ _).1 e1
  obtain ⟨_, r0, k2⟩ := (okIn_iff _ _ _).1 e2
  have g1 := rises_ev base left l hl
  have g2 := rises_ev base right r hr
  rw [k1] at g1
  rw [k2] at g2
  have h3 := ref_run hl hr (ranged_of e1) (ranged_of e2) hrun [] ⟨by omega, by omega, by omega, by omega, by omega, by omega, hb, hleft, hright⟩ (by simpa using hcs)
  have hj : Ev (fun k => tripartiteref06_Of.j0 k base left right l r false) (cs.map cc, true) := evTo h3 (fun k => by simp only [tripartiteref06_Of.j0]; rw [if_neg (by decide)]) (by simp)
  refine Ev.congr (fun k => ?_) (Ev.bind (f := fun k t138 => (if t138 = true then ((tripartiteref06_rises.f k base right r).bind fun t139 => (tripartiteref06_Of.j0 k base left right l r (!t139))) else (tripartiteref06_Of.j0 k base left right l r true))) g1 (Ev.congr (fun k => if_pos rfl) (Ev.bind g2 hj)))
  unfold tripartiteref06_Of.f
  rw [if_neg (by omega), if_neg (by omega), if_neg (by omega)]
end

/-- Left and right the other way round. -/
def tn (c : S40) : S40 := ⟨c.f0, c.f1, c.f3, c.f2⟩
theorem tog_swap {M N : Int → Int} {base o a b j : Int} (h : Tog M N base o a b j) : Tog N M base o b a j := ⟨h.1, h.2.2, h.2.1⟩
theorem stab_swap {M N : Int → Int} {base o a b n : Int} (h : Stab M N base o a b n) : Stab N M base o b a n := ⟨h.1, fun j h0 h1 => tog_swap (h.2.1 j h0 h1), fun h' => h.2.2 (tog_swap h')⟩
theorem skip_swap {M N : Int → Int} {base a b i : Int} (h : Skip M N base a b i) : Skip N M base b a i := ⟨h.1, h.2.symm⟩
theorem nxt_swap {M N : Int → Int} {base o a b t : Int} (h : Nxt M N base o a b t) : Nxt N M base o b a t := ⟨h.1, fun i h0 h1 => skip_swap (h.2.1 i h0 h1), fun h' => h.2.2 (skip_swap h')⟩
theorem run_swap {M N : Int → Int} {base left right o a b : Int} {cs : List S40} (h : Run M N base left right o a b cs) : Run N M base right left o b a (cs.map tn) := by
  induction h with
  | done hc => exact .done (by omega)
  | stab hc hs hn hr ih => exact .stab (by omega) (stab_swap hs) hn ih
  | jump hc hs hx ht hr ih => exact .jump (by omega) (stab_swap hs) (nxt_swap hx) ht ih
  | last hc hs hx ht => exact .last (by omega) (stab_swap hs) (nxt_swap hx) ht

/-- What the law asks of the chunks: one behind the other, none empty, stable ones and others in turn. -/
def Fine (c : S40) : Prop := 0 ≤ c.f1.f0 ∧ c.f1.f0 ≤ c.f1.f1 ∧ c.f1.f1 ≤ 100 ∧ 0 ≤ c.f2.f0 ∧ c.f2.f0 ≤ c.f2.f1 ∧ c.f2.f1 ≤ 100 ∧ 0 ≤ c.f3.f0 ∧ c.f3.f0 ≤ c.f3.f1 ∧ c.f3.f1 ≤ 100 ∧ 0 < (c.f1.f1 - c.f1.f0) + (c.f2.f1 - c.f2.f0) + (c.f3.f1 - c.f3.f0)
def Good (base left right : Int) : Option Bool → Int → Int → Int → List S40 → Prop
  | _, o, a, b, [] => o = base ∧ a = left ∧ b = right
  | p, o, a, b, c :: cs => c.f1.f0 = o ∧ c.f2.f0 = a ∧ c.f3.f0 = b ∧ p ≠ some c.f0 ∧ Fine c ∧ Good base left right (some c.f0) c.f1.f1 c.f2.f1 c.f3.f1 cs
theorem run_good {M N : Int → Int} {base left right : Int} (hM : Ranged M left) (hN : Ranged N right) {o a b : Int} {cs : List S40} (h : Run M N base left right o a b cs) :
    ∀ p : Option Bool, Inv base left right o a b → (p = some true → ¬ Tog M N base o a b 0) → (p = some false → Tog M N base o a b 0 ∨ cs = []) → Good base left right p o a b cs := by
  induction h with
  | done hc =>
    intro p hI _ _
    obtain ⟨i1, i2, i3, i4, i5, i6, i7, i8, i9⟩ := hI
    exact ⟨by omega, by omega, by omega⟩
  | @stab o a b n cs hc hs hn hr ih =>
    intro p hI hp1 hp2
    have hI2 := inv_stab hM hN hI hs hn
    obtain ⟨i1, i2, i3, i4, i5, i6, i7, i8, i9⟩ := hI
    obtain ⟨j1, j2, j3, j4, j5, j6, _, _, _⟩ := id hI2
    refine ⟨rfl, rfl, rfl, ?_, ⟨by simp only; omega, by simp only; omega, by simp only; omega, by simp only; omega, by simp only; omega, by simp only; omega, by simp only; omega, by simp only; omega, by simp only; omega, by simp only; omega⟩, ih (some true) hI2 (fun _ ht => hs.2.2 ?_) (fun h => by cases h)⟩
    · intro h
      exact hp1 h (hs.2.1 0 (by omega) hn)
    · obtain ⟨t1, t2, t3⟩ := ht
      rw [Int.add_zero] at t1 t2 t3
      rw [Int.add_zero] at t2 t3
      exact ⟨t1, t2, t3⟩
  | @jump o a b t cs hc hs hx ht hr ih =>
    intro p hI hp1 hp2
    have hI2 := inv_jump hM hN hI hx ht
    have hk := nxt_ge hx ht
    have h1 := hx.1
    have hp : ¬ (t = o ∧ M t = a ∧ N t = b) := by
      rintro ⟨rfl, e2, e3⟩
      exact hs.2.2 ⟨by omega, by rw [Int.add_zero, Int.add_zero]; exact e2, by rw [Int.add_zero, Int.add_zero]; exact e3⟩
    obtain ⟨i1, i2, i3, i4, i5, i6, i7, i8, i9⟩ := hI
    obtain ⟨j1, j2, j3, j4, j5, j6, _, _, _⟩ := id hI2
    refine ⟨rfl, rfl, rfl, ?_, ⟨by simp only; omega, by simp only; omega, by simp only; omega, by simp only; omega, by simp only; omega, by simp only; omega, by simp only; omega, by simp only; omega, by simp only; omega, by simp only; omega⟩, ih (some false) hI2 (fun h => by cases h) (fun _ => .inl ⟨by omega, by rw [Int.add_zero, Int.add_zero], by rw [Int.add_zero, Int.add_zero]⟩)⟩
    intro h
    rcases hp2 h with h | h
    · exact hs.2.2 h
    · cases h
  | @last o a b t hc hs hx ht =>
    intro p hI hp1 hp2
    obtain ⟨i1, i2, i3, i4, i5, i6, i7, i8, i9⟩ := hI
    refine ⟨rfl, rfl, rfl, ?_, ⟨by simp only; omega, by simp only; omega, by simp only; omega, by simp only; omega, by simp only; omega, by simp only; omega, by simp only; omega, by simp only; omega, by simp only; omega, by simp only; omega⟩, ⟨rfl, rfl, rfl⟩⟩
    intro h
    rcases hp2 h with h | h
    · exact hs.2.2 h
    · cases h
def prevS (l : List S40) (i : Nat) : Option Bool := if h : 0 < i ∧ i - 1 < l.length then some (l[i - 1]'h.2).f0 else none
theorem len_ev {x y : Int} (h0 : 0 ≤ x) (h1 : x ≤ y) (h2 : y ≤ 100) : chunk_Span_Len.f x y = some (y - x) := by
  unfold chunk_Span_Len.f
  by_cases h : y ≤ x
  · rw [if_pos h]; congr 1; omega
  · rw [if_neg h, wr (by omega) (by omega)]
theorem wrap_pred (i : Nat) (h0 : 0 < i) (h1 : i ≤ 1000) : wrap64 ((i : Int) - 1) = ((i - 1 : Nat) : Int) := by rw [wr (by omega) (by omega)]; omega
theorem turned_ok (c : S40) : ¬ ((!((tn c).f0 == c.f0) || ((!((tn c).f1.f0 == c.f1.f0) || (!((tn c).f1.f1 == c.f1.f1))) || ((!((tn c).f3.f0 == c.f2.f0) || (!((tn c).f3.f1 == c.f2.f1))) || ((!((tn c).f2.f0 == c.f3.f0) || (!((tn c).f2.f1 == c.f3.f1))))))) = true) := by simp [tn]
theorem law_loop (base left right : Int) (X : List S40) (hl : X.length ≤ 1000) (d : Nat) : ∀ (i : Nat) (o a b : Int), i + d = X.length → Good base left right (prevS X i) o a b (X.drop i) → Ev (fun k => tripartitelaw06_ChunkLists.l0 k base left right X true (X.map tn) (i : Int) o a b) true := by
  induction d with
  | zero =>
    intro i o a b hi hg
    rw [List.drop_eq_nil_of_le (by omega)] at hg
    obtain ⟨rfl, rfl, rfl⟩ := hg
    refine evEnd (fun k => ?_)
    simp only [tripartitelaw06_ChunkLists.l0]
    rw [if_neg (by omega), if_pos trivial]
    simp
  | succ d ih =>
    intro i o a b hi hg
    have hlt : i < X.length := by omega
    have hlt' : i < (X.map tn).length := by simpa using hlt
    rw [List.drop_eq_getElem_cons hlt] at hg
    obtain ⟨g1, g2, g3, g4, ⟨f1, f2, f3, f4, f5, f6, f7, f8, f9, f10⟩, g5⟩ := hg
    have hp : prevS X (i + 1) = some X[i].f0 := by unfold prevS; rw [dif_pos ⟨by omega, by simpa using hlt⟩]; rfl
    have h := ih (i + 1) X[i].f1.f1 X[i].f2.f1 X[i].f3.f1 (by omega) (by rw [hp]; exact g5)
    have er : rd_T40 (X.map tn) (i : Int) = tn X[i] := by rw [rd40_at _ i hlt']; simp
    have w1 : wrap64 ((i : Int) + 1) = ((i + 1 : Nat) : Int) := by rw [wr (by omega) (by omega)]; omega
    have w2 : 0 < i → wrap64 ((i : Int) - 1) = ((i - 1 : Nat) : Int) := fun h => wrap_pred i h (Nat.le_trans (Nat.le_of_lt hlt) hl)
    have p1 : 0 < i → (i : Int) > 0 := fun h => Int.ofNat_lt.2 h
    have p2 : ¬ 0 < i → ¬ (i : Int) > 0 := fun h h' => h (Int.ofNat_lt.1 h')
    have h2 : Ev (fun k => tripartitelaw06_ChunkLists.j2 k base left right X true (X.map tn) (i : Int) false X[i].f0 X[i].f1.f0 X[i].f1.f1 X[i].f2.f0 X[i].f2.f1 X[i].f3.f0 X[i].f3.f1) true := by
      refine evTo h (fun k => ?_) rfl
      simp only [tripartitelaw06_ChunkLists.j2, len_ev f1 f2 f3, len_ev f4 f5 f6, len_ev f7 f8 f9, Option.bind_some]
      rw [if_neg (by decide), w1, wr (x := (X[i].f1.f1 - X[i].f1.f0) + (X[i].f2.f1 - X[i].f2.f0)) (by omega) (by omega), wr (by omega) (by omega), if_neg (by omega)]
    have q1 : (i : Int) < (X.length : Int) := Int.ofNat_lt.2 hlt
    have q2 : (0 : Int) ≤ (i : Int) := Int.natCast_nonneg i
    have q3 : (i : Int) < ((X.map tn).length : Int) := Int.ofNat_lt.2 hlt'
    refine evTo h2 (fun k => ?_) rfl
    simp only [tripartitelaw06_ChunkLists.l0]
    rw [if_pos q1, if_pos q2, if_pos q3, er, rd40_at X i hlt]
    simp only [chunk_Chunk_Turned.f, tripartitelaw06_one.f, tripartitelaw06_span.f, Option.bind_some]
    rw [if_neg (turned_ok X[i]), if_pos g1, if_pos g2, if_pos g3]
    by_cases h0 : 0 < i
    · have hq : i - 1 < X.length := Nat.lt_of_le_of_lt (Nat.sub_le _ _) hlt
      have e : (X[i - 1].f0 == X[i].f0) = false := by
        rw [beq_eq_false_iff_ne]
        intro e
        apply g4
        unfold prevS
        rw [dif_pos ⟨h0, hq⟩, e]
      rw [if_pos (p1 h0), w2 h0, if_pos (Int.natCast_nonneg (i - 1)), if_pos (Int.ofNat_lt.2 hq), rd40_at X (i - 1) hq, e]
    · rw [if_neg (p2 h0)]

theorem mn_70 (n : Nat) : 0 ≤ mn (n : Int) 70 ∧ mn (n : Int) 70 ≤ n ∧ mn (n : Int) 70 ≤ 70 := by unfold mn; split <;> omega
theorem ev_get {α : Type} {g : Nat → Option α} {r : α} (h : Ev g r) : ∃ K, ∀ k, K ≤ k → g k = some r := h
theorem law_j0 (base left right : Int) (X : List S40) (hl : X.length ≤ 1000) (hg : Good base left right none 0 0 0 X) : Ev (fun k => tripartitelaw06_ChunkLists.j0 k base left right X true (X.map tn) false) true := by
  have h := law_loop base left right X hl X.length 0 0 0 0 (by omega) (by simpa [prevS] using hg)
  exact evTo h (fun k => by simp only [tripartitelaw06_ChunkLists.j0]; rw [if_neg (by decide)]; rfl) rfl
theorem law_j0_bad (base left right : Int) : Ev (fun k => tripartitelaw06_ChunkLists.j0 k base left right [] false [] false) true := by
  have h : Ev (fun k => tripartitelaw06_ChunkLists.l0 k base left right [] false [] 0 0 0 0) true := evEnd (fun k => by simp only [tripartitelaw06_ChunkLists.l0]; rw [if_neg (by simp), if_neg (by decide)])
  exact evTo h (fun k => by simp only [tripartitelaw06_ChunkLists.j0]; rw [if_neg (by decide)]) rfl
theorem ChunkLists_true (a0 a1 a2 : Int) (l1 l2 : List S65) : ∃ k, tripartitelaw06_ChunkLists.f k a0 a1 a2 l1 l2 = some true := by
  obtain ⟨base, s0, b0, b1⟩ := small_some a0
  obtain ⟨left, s1, c0, c1⟩ := small_some a1
  obtain ⟨right, s2, d0, d1⟩ := small_some a2
  obtain ⟨m1, m2, m3⟩ := mn_70 l1.length
  obtain ⟨m4, m5, m6⟩ := mn_70 l2.length
  obtain ⟨l, hl⟩ : ∃ l, l = l1.take (mn (l1.length : Int) 70).toNat := ⟨_, rfl⟩
  obtain ⟨r, hr⟩ : ∃ r, r = l2.take (mn (l2.length : Int) 70).toNat := ⟨_, rfl⟩
  have hl' : l.length ≤ 1000 := by rw [hl, List.length_take]; omega
  have hr' : r.length ≤ 1000 := by rw [hr, List.length_take]; omega
  obtain ⟨K1, T1⟩ := To_ev l hl'
  obtain ⟨K2, T2⟩ := To_ev r hr'
  obtain ⟨K3, TO⟩ := told_ev
  unfold tripartitelaw06_ChunkLists.f
  simp only [s0, s1, s2, Option.bind_some, ← hl, ← hr]
  simp only [if_pos m1, if_pos m2, if_pos m4, if_pos m5]
  cases hok : okAll base left right l r with
  | false =>
    have hok' : okAll base right left r l = false := by unfold okAll at hok ⊢; rw [Bool.and_comm]; exact hok
    obtain ⟨K4, O1⟩ := Of_bad hl' hr' (by omega) hok
    obtain ⟨K5, O2⟩ := Of_bad hr' hl' (by omega) hok'
    obtain ⟨K6, RR⟩ := ref_bad hl' hr' hok
    obtain ⟨K7, FR⟩ := From_ev [] (by simp)
    obtain ⟨K8, SA⟩ := Same_ev [] (by simp)
    obtain ⟨K9, J0⟩ := law_j0_bad base left right
    refine ⟨K1 + K2 + K3 + K4 + K5 + K6 + K7 + K8 + K9, ?_⟩
    generalize hk : K1 + K2 + K3 + K4 + K5 + K6 + K7 + K8 + K9 = k
    replace T1 : tripartitelaw03_To.f k l = some (l.map cv) := T1 k (by omega)
    replace T2 : tripartitelaw03_To.f k r = some (r.map cv) := T2 k (by omega)
    replace TO : tripartitelaw06_told.f k = some true := TO k (by omega)
    replace O1 : chunk_Of.f k base left right (l.map cv) (r.map cv) = some ([], 12) := O1 k (by omega)
    replace O2 : chunk_Of.f k base right left (r.map cv) (l.map cv) = some ([], 12) := O2 k (by omega)
    replace RR : tripartiteref06_Of.f k base left right l r = some ([], false) := RR k (by omega)
    replace FR : tripartitelaw06_From.f k [] = some (List.map cc []) := FR k (by omega)
    replace SA : tripartitelaw06_Same.f k [] [] = some true := SA k (by omega)
    replace J0 := J0 k (by omega)
    rw [T1, Option.bind_some, T2, Option.bind_some, O1, Option.bind_some, RR, Option.bind_some, Option.bind_some, Option.bind_some, O2, Option.bind_some, TO, Option.bind_some]
    rw [if_pos rfl, if_neg (by decide), if_pos rfl, if_neg (by decide), if_pos rfl, FR, Option.bind_some, List.map_nil, SA, Option.bind_some, if_pos rfl]
    exact J0
  | true =>
    have hok' : okAll base right left r l = true := by unfold okAll at hok ⊢; rw [Bool.and_comm]; exact hok
    obtain ⟨e1, e2⟩ := Bool.and_eq_true_iff.1 (show (okIn base left l && okIn base right r) = true from hok)
    obtain ⟨g0, g1, k1⟩ := (okIn_iff _ _ _).1 e1
    obtain ⟨_, g2, k2⟩ := (okIn_iff _ _ _).1 e2
    have hI : Inv base left right 0 0 0 := ⟨by omega, by omega, by omega, by omega, by omega, by omega, by omega, by omega, by omega⟩
    obtain ⟨cs, hrun, hcs⟩ := run_ex (ranged_of e1) (ranged_of e2) 300 0 0 0 hI (by omega)
    have hlen : cs.length ≤ 1000 := by omega
    have hgood := run_good (ranged_of e1) (ranged_of e2) hrun none hI (fun h => by cases h) (fun h => by cases h)
    obtain ⟨K4, O1⟩ := Of_good hl' hr' (by omega) (by omega) (by omega) hok hrun hlen
    obtain ⟨K5, O2⟩ := Of_good hr' hl' (by omega) (by omega) (by omega) hok' (run_swap hrun) (by simpa using hlen)
    obtain ⟨K6, RR⟩ := ref_good hl' hr' (by omega) (by omega) (by omega) hok hrun hlen
    obtain ⟨K7, FR⟩ := From_ev cs hlen
    obtain ⟨K8, SA⟩ := Same_ev (cs.map cc) (by simpa using hlen)
    obtain ⟨K9, J0⟩ := law_j0 base left right cs hlen hgood
    refine ⟨K1 + K2 + K3 + K4 + K5 + K6 + K7 + K8 + K9, ?_⟩
    generalize hk : K1 + K2 + K3 + K4 + K5 + K6 + K7 + K8 + K9 = k
    replace T1 : tripartitelaw03_To.f k l = some (l.map cv) := T1 k (by omega)
    replace T2 : tripartitelaw03_To.f k r = some (r.map cv) := T2 k (by omega)
    replace TO : tripartitelaw06_told.f k = some true := TO k (by omega)
    replace O1 : chunk_Of.f k base left right (l.map cv) (r.map cv) = some (cs, 0) := O1 k (by omega)
    replace O2 : chunk_Of.f k base right left (r.map cv) (l.map cv) = some (cs.map tn, 0) := O2 k (by omega)
    replace RR : tripartiteref06_Of.f k base left right l r = some (cs.map cc, true) := RR k (by omega)
    replace FR : tripartitelaw06_From.f k cs = some (cs.map cc) := FR k (by omega)
    replace SA : tripartitelaw06_Same.f k (cs.map cc) (cs.map cc) = some true := SA k (by omega)
    replace J0 := J0 k (by omega)
    have hb : (((cs.length : Int) != ((cs.map tn).length : Int))) = false := by simp
    rw [T1, Option.bind_some, T2, Option.bind_some, O1, Option.bind_some, RR, Option.bind_some, Option.bind_some, Option.bind_some, O2, Option.bind_some, TO, Option.bind_some]
    rw [if_pos rfl, if_neg (by simp), if_pos rfl, if_pos rfl, FR, Option.bind_some, SA, Option.bind_some, if_pos rfl]
    show tripartitelaw06_ChunkLists.j0 k base left right cs true (cs.map tn) ((cs.length : Int) != ((cs.map tn).length : Int)) = some true
    rw [hb]
    exact J0
end Go.Proofs.Ytkliaoikljjeaaa.X

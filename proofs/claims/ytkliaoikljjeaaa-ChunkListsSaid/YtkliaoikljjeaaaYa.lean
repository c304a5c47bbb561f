/-
  Plain law, part 1: what To, rises, at and table compute, in plain Lean: no memory.
-/
import Derived.Test.YtkliaoikljjeaaaXt
import Derived.Test.YtkliaoikljjeaaaXs
import Derived.Test.YtkliaoikljjeaaaXp
import Derived.Test.YtkliaoikljjeaaaXq
namespace Go.Proofs.Ytkliaoikljjeaaa.X
open Go.RowKit Go.Proofs.YtkliaoikljjeaaaW.PrintWords Go.Proofs.YtkliaoikljjeaaaW.PrintLast Go.Proofs.YtkliaoikljjeaaaW.PrintMore

theorem wr {x : Int} (h0 : -100000 ≤ x) (h1 : x ≤ 100000) : wrap64 x = x := by unfold wrap64; omega
theorem evc {α : Type} {g : Nat → Option α} {r : α} (h : ∀ k, g k = some r) : Ev g r := ⟨0, fun k _ => h k⟩
theorem evTo {α : Type} {g f : Nat → Option α} {r r' : α} (k : Ev f r') (h : ∀ k, g (k + 1) = f k) (e : r' = r) : Ev g r := by
  subst e
  exact Ev.step h k
theorem evEnd {α : Type} {g : Nat → Option α} {r : α} (h : ∀ k, g (k + 1) = some r) : Ev g r := Ev.step (f := fun _ => some r) h (Ev.now _)
theorem rd65_at (l : List S65) (i : Nat) (h : i < l.length) : rd_T65 l (i : Int) = l[i] := by
  unfold rd_T65
  rw [Int.toNat_natCast, List.getD_eq_getElem?_getD, List.getElem?_eq_getElem h]
  rfl
theorem rd66_at (l : List S66) (i : Nat) (h : i < l.length) : rd_T66 l (i : Int) = l[i] := by
  unfold rd_T66
  rw [Int.toNat_natCast, List.getD_eq_getElem?_getD, List.getElem?_eq_getElem h]
  rfl
def cv (p : S65) : S66 := ⟨p.f0, p.f1⟩
theorem To_loop (l : List S65) (hl : l.length ≤ 1000) (d : Nat) : ∀ (i : Nat) (out : List S66), i + d = l.length → out.length ≤ i → Ev (fun k => tripartitelaw03_To.l0 k l out (i : Int)) (out ++ (l.drop i).map cv) := by
  induction d with
  | zero =>
    intro i out hi ho
    refine evEnd (fun k => ?_)
    simp only [tripartitelaw03_To.l0]
    rw [if_neg (by omega), List.drop_eq_nil_of_le (by omega)]
    simp
  | succ d ih =>
    intro i out hi ho
    have hlt : i < l.length := by omega
    refine evTo (ih (i + 1) (out ++ [cv l[i]]) (by omega) (by simp; omega)) (fun k => ?_) ?_
    · simp only [tripartitelaw03_To.l0]
      rw [if_pos (by omega), if_pos (by omega), if_pos (by omega), wr (by omega) (by omega), rd65_at l i hlt]
      rfl
    · rw [List.drop_eq_getElem_cons hlt, List.map_cons, List.append_assoc]
      rfl
theorem To_ev (l : List S65) (hl : l.length ≤ 1000) : Ev (fun k => tripartitelaw03_To.f k l) (l.map cv) := by
  have h := To_loop l hl l.length 0 [] (by omega) (by simp)
  simpa [tripartitelaw03_To.f] using h

/-- Pairs that rise from (u, v) on, and are places. -/
def riseB (a b : Int) : Int → Int → List S65 → Bool
  | _, _, [] => true
  | u, v, p :: l => decide (u < p.f0) && (decide (v < p.f1) && (decide (p.f0 < a) && (decide (p.f1 < b) && riseB a b p.f0 p.f1 l)))
/-- What a place is matched with. -/
def fnd : List S65 → Int → Int
  | [], _ => -1
  | p :: l, x => if p.f0 = x then p.f1 else fnd l x
theorem at_loop (l : List S65) (x : Int) (hl : l.length ≤ 1000) (d : Nat) : ∀ i : Nat, i + d = l.length → Ev (fun k => tripartiteref06_at.l0 k l x (i : Int)) (fnd (l.drop i) x) := by
  induction d with
  | zero =>
    intro i hi
    refine evEnd (fun k => ?_)
    simp only [tripartiteref06_at.l0]
    rw [if_neg (by omega), List.drop_eq_nil_of_le (by omega)]
    rfl
  | succ d ih =>
    intro i hi
    have hlt : i < l.length := by omega
    rw [List.drop_eq_getElem_cons hlt]
    by_cases h : l[i].f0 = x
    · refine evEnd (fun k => ?_)
      simp only [tripartiteref06_at.l0]
      rw [if_pos (by omega), if_pos (by omega), rd65_at l i hlt, if_pos h]
      simp [fnd, h]
    · refine evTo (ih (i + 1) (by omega)) (fun k => ?_) ?_
      · simp only [tripartiteref06_at.l0]
        rw [if_pos (by omega), if_pos (by omega), rd65_at l i hlt, if_neg h, wr (by omega) (by omega)]
        rfl
      · simp [fnd, h]
theorem at_ev (l : List S65) (x : Int) (hl : l.length ≤ 1000) : Ev (fun k => tripartiteref06_at.f k l x) (fnd l x) := by
  have h := at_loop l x hl l.length 0 (by omega)
  simpa [tripartiteref06_at.f] using h
def prevA (l : List S65) (i : Nat) : Int := if h : 0 < i ∧ i - 1 < l.length then (l[i - 1]'h.2).f0 else -1
def prevB (l : List S65) (i : Nat) : Int := if h : 0 < i ∧ i - 1 < l.length then (l[i - 1]'h.2).f1 else -1
theorem prev_succ (l : List S65) (i : Nat) (h : i < l.length) : prevA l (i + 1) = l[i].f0 ∧ prevB l (i + 1) = l[i].f1 := by
  unfold prevA prevB
  constructor <;> rw [dif_pos ⟨by omega, by simpa using h⟩] <;> rfl
theorem riseB_cons (a b u v : Int) (p : S65) (l : List S65) : riseB a b u v (p :: l) = true ↔ u < p.f0 ∧ v < p.f1 ∧ p.f0 < a ∧ p.f1 < b ∧ riseB a b p.f0 p.f1 l = true := by
  simp [riseB]
theorem riseB_not (a b u v : Int) (p : S65) (l : List S65) (h : ¬ (u < p.f0 ∧ v < p.f1 ∧ p.f0 < a ∧ p.f1 < b)) : riseB a b u v (p :: l) = false := by
  rw [Bool.eq_false_iff]
  intro hr
  have := (riseB_cons a b u v p l).1 hr
  exact h ⟨this.1, this.2.1, this.2.2.1, this.2.2.2.1⟩
theorem riseB_go (a b u v : Int) (p : S65) (l : List S65) (h : u < p.f0 ∧ v < p.f1 ∧ p.f0 < a ∧ p.f1 < b) : riseB a b u v (p :: l) = riseB a b p.f0 p.f1 l := by
  simp [riseB, h.1, h.2.1, h.2.2.1, h.2.2.2]
theorem rises_loop (a b : Int) (l : List S65) (hl : l.length ≤ 1000) (d : Nat) : ∀ i : Nat, i + d = l.length → -1 ≤ prevA l i → -1 ≤ prevB l i → Ev (fun k => tripartiteref06_rises.l0 k a b l (i : Int)) (riseB a b (prevA l i) (prevB l i) (l.drop i)) := by
  induction d with
  | zero =>
    intro i hi _ _
    refine evEnd (fun k => ?_)
    simp only [tripartiteref06_rises.l0]
    rw [if_neg (by omega), List.drop_eq_nil_of_le (by omega)]
    rfl
  | succ d ih =>
    intro i hi hA hB
    have hlt : i < l.length := by omega
    obtain ⟨pa, pb⟩ := prev_succ l i hlt
    rw [List.drop_eq_getElem_cons hlt]
    have cut : ∀ k, tripartiteref06_rises.l0 (k + 1) a b l (i : Int) = if l[i].f0 < 0 then some false else if l[i].f0 ≥ a then some false else if l[i].f1 < 0 then some false else if l[i].f1 ≥ b then some false else if prevA l i ≥ l[i].f0 then some false else if prevB l i ≥ l[i].f1 then some false else tripartiteref06_rises.l0 k a b l ((i + 1 : Nat) : Int) := by
      intro k
      have w1 : wrap64 ((i : Int) + 1) = ((i + 1 : Nat) : Int) := by rw [wr (by omega) (by omega)]; omega
      simp only [tripartiteref06_rises.l0]
      rw [if_pos (by omega), if_pos (by omega), rd65_at l i hlt, w1]
      by_cases h0 : 0 < i
      · have hp : i - 1 < l.length := by omega
        have w2 : wrap64 ((i : Int) - 1) = ((i - 1 : Nat) : Int) := by rw [wr (by omega) (by omega)]; omega
        rw [if_pos (show (i : Int) > 0 by omega), w2, if_pos (show (0 : Int) ≤ ((i - 1 : Nat) : Int) by omega), if_pos (show ((i - 1 : Nat) : Int) < (l.length : Int) by omega), rd65_at l (i - 1) hp]
        have qa : prevA l i = l[i - 1].f0 := by unfold prevA; rw [dif_pos ⟨h0, hp⟩]
        have qb : prevB l i = l[i - 1].f1 := by unfold prevB; rw [dif_pos ⟨h0, hp⟩]
        rw [qa, qb]
      · rw [if_neg (show ¬ (i : Int) > 0 by omega)]
        have qa : prevA l i = -1 := by unfold prevA; rw [dif_neg (by omega)]
        have qb : prevB l i = -1 := by unfold prevB; rw [dif_neg (by omega)]
        rw [qa, qb]
        by_cases g1 : l[i].f0 < 0
        · rw [if_pos g1, if_pos g1]
        · rw [if_neg g1, if_neg g1]
          by_cases g2 : l[i].f0 ≥ a
          · rw [if_pos g2, if_pos g2]
          · rw [if_neg g2, if_neg g2]
            by_cases g3 : l[i].f1 < 0
            · rw [if_pos g3, if_pos g3]
            · rw [if_neg g3, if_neg g3]
              by_cases g4 : l[i].f1 ≥ b
              · rw [if_pos g4, if_pos g4]
              · rw [if_neg g4, if_neg g4, if_neg (by omega), if_neg (by omega)]
    by_cases h : prevA l i < l[i].f0 ∧ prevB l i < l[i].f1 ∧ l[i].f0 < a ∧ l[i].f1 < b
    · refine evTo (ih (i + 1) (by omega) (by rw [pa]; omega) (by rw [pb]; omega)) (fun k => ?_) ?_
      · rw [cut k, if_neg (by omega), if_neg (by omega), if_neg (by omega), if_neg (by omega), if_neg (by omega), if_neg (by omega)]
      · rw [riseB_go _ _ _ _ _ _ h, pa, pb]
    · refine evEnd (fun k => ?_)
      rw [cut k, riseB_not _ _ _ _ _ _ h]
      by_cases g1 : l[i].f0 < 0
      · rw [if_pos g1]
      · rw [if_neg g1]
        by_cases g2 : l[i].f0 ≥ a
        · rw [if_pos g2]
        · rw [if_neg g2]
          by_cases g3 : l[i].f1 < 0
          · rw [if_pos g3]
          · rw [if_neg g3]
            by_cases g4 : l[i].f1 ≥ b
            · rw [if_pos g4]
            · rw [if_neg g4]
              by_cases g5 : prevA l i ≥ l[i].f0
              · rw [if_pos g5]
              · rw [if_neg g5, if_pos (by omega)]
theorem rises_ev (a b : Int) (l : List S65) (hl : l.length ≤ 1000) : Ev (fun k => tripartiteref06_rises.f k a b l) (riseB a b (-1) (-1) l) := by
  have h := rises_loop a b l hl l.length 0 (by omega) (by simp [prevA]) (by simp [prevB])
  simpa [tripartiteref06_rises.f, prevA, prevB] using h

/-- The table, place by place. -/
def tab : List Int → List S65 → List Int
  | t, [] => t
  | t, p :: l => tab (t.set p.f0.toNat p.f1) l
theorem tab_length (l : List S65) : ∀ t, (tab t l).length = t.length := by
  induction l with
  | nil => intro t; rfl
  | cons p l ih => intro t; simp [tab, ih]
theorem fnd_low (a b : Int) (l : List S65) : ∀ u v x, riseB a b u v l = true → x ≤ u → fnd l x = -1 := by
  induction l with
  | nil => intros; rfl
  | cons p l ih =>
    intro u v x h hx
    obtain ⟨h1, h2, h3, h4, h5⟩ := (riseB_cons a b u v p l).1 h
    simp only [fnd]
    rw [if_neg (by omega)]
    exact ih _ _ x h5 (by omega)
theorem tab_low (a b : Int) (l : List S65) : ∀ (t : List Int) u v (x : Int), riseB a b u v l = true → -1 ≤ u → 0 ≤ x → x ≤ u → rd (tab t l) x = rd t x := by
  induction l with
  | nil => intros; rfl
  | cons p l ih =>
    intro t u v x h hu h0 hx
    obtain ⟨h1, h2, h3, h4, h5⟩ := (riseB_cons a b u v p l).1 h
    simp only [tab]
    rw [ih _ _ _ x h5 (by omega) h0 (by omega)]
    unfold rd
    rw [List.getD_eq_getElem?_getD, List.getD_eq_getElem?_getD, List.getElem?_set_ne (by omega)]
theorem tab_rd (a b : Int) (l : List S65) : ∀ (t : List Int) u v (x : Int), riseB a b u v l = true → -1 ≤ u → (t.length : Int) = a → 0 ≤ x → x < a → rd t x = -1 → rd (tab t l) x = fnd l x := by
  induction l with
  | nil => intro t u v x _ _ _ _ _ h; exact h
  | cons p l ih =>
    intro t u v x h hu ht h0 hx hr
    obtain ⟨h1, h2, h3, h4, h5⟩ := (riseB_cons a b u v p l).1 h
    simp only [tab, fnd]
    by_cases e : p.f0 = x
    · rw [if_pos e, tab_low a b l _ _ _ x h5 (by omega) h0 (by omega)]
      unfold rd
      rw [List.getD_eq_getElem?_getD, e, List.getElem?_set_self (by omega)]
      rfl
    · rw [if_neg e]
      refine ih _ _ _ x h5 (by omega) (by simpa using ht) h0 hx ?_
      rw [← hr]
      unfold rd
      rw [List.getD_eq_getElem?_getD, List.getD_eq_getElem?_getD, List.getElem?_set_ne (by omega)]
theorem fnd_range (a b : Int) (l : List S65) : ∀ u v x, riseB a b u v l = true → -1 ≤ v → fnd l x = -1 ∨ (0 ≤ fnd l x ∧ fnd l x < b) := by
  induction l with
  | nil => intros; exact .inl rfl
  | cons p l ih =>
    intro u v x h hv
    obtain ⟨h1, h2, h3, h4, h5⟩ := (riseB_cons a b u v p l).1 h
    simp only [fnd]
    by_cases e : p.f0 = x
    · rw [if_pos e]; exact .inr ⟨by omega, h4⟩
    · rw [if_neg e]; exact ih _ _ x h5 (by omega)
theorem table_loop (a b : Int) (l : List S65) (hl : l.length ≤ 1000) (d : Nat) : ∀ (i : Nat) (t : List Int) (u v : Int), i + d = l.length → -1 ≤ u → -1 ≤ v → (t.length : Int) = a →
    Ev (fun k => chunk_table.l0 k a b t (l.map cv) ((l.map cv).length : Int) (i : Int) u v) (if riseB a b u v (l.drop i) = true then (tab t (l.drop i), true) else ([], false)) := by
  induction d with
  | zero =>
    intro i t u v hi _ _ _
    refine evEnd (fun k => ?_)
    simp only [chunk_table.l0]
    rw [if_neg (by simp; omega), List.drop_eq_nil_of_le (by omega)]
    rfl
  | succ d ih =>
    intro i t u v hi hu hv ht
    have hlt : i < l.length := by omega
    have hlt' : i < (l.map cv).length := by simpa using hlt
    have er : rd_T66 (l.map cv) (i : Int) = cv l[i] := by rw [rd66_at _ i hlt']; simp
    rw [List.drop_eq_getElem_cons hlt]
    by_cases h : u < l[i].f0 ∧ v < l[i].f1 ∧ l[i].f0 < a ∧ l[i].f1 < b
    · refine evTo (ih (i + 1) (t.set l[i].f0.toNat l[i].f1) l[i].f0 l[i].f1 (by omega) (by omega) (by omega) (by simpa using ht)) (fun k => ?_) ?_
      · simp only [chunk_table.l0, er, cv]
        rw [if_pos (by omega), if_pos (by omega), if_pos (by omega), if_neg (by omega), if_neg (by omega), if_neg (by omega), if_neg (by omega), if_pos (by omega), if_pos (by omega), wr (by omega) (by omega)]
        rfl
      · rw [riseB_go _ _ _ _ _ _ h]
        rfl
    · refine evEnd (fun k => ?_)
      simp only [chunk_table.l0, er, cv]
      rw [if_pos (by omega), if_pos (by omega), if_pos (by omega), riseB_not _ _ _ _ _ _ h]
      by_cases g1 : l[i].f0 ≤ u
      · rw [if_pos g1]; rfl
      · rw [if_neg g1]
        by_cases g2 : l[i].f1 ≤ v
        · rw [if_pos g2]; rfl
        · rw [if_neg g2]
          by_cases g3 : l[i].f0 ≥ a
          · rw [if_pos g3]; rfl
          · rw [if_neg g3, if_pos (by omega)]; rfl
def okIn (a b : Int) (l : List S65) : Bool := decide (0 ≤ a) && (decide (0 ≤ b) && riseB a b (-1) (-1) l)
theorem table_ev (a b : Int) (l : List S65) (hl : l.length ≤ 1000) (ha : a ≤ 1000) :
    Ev (fun k => chunk_table.f k a b (l.map cv)) (if okIn a b l = true then (tab (List.replicate a.toNat (-1)) l, true) else ([], false)) := by
  by_cases h0 : a < 0
  · have e : okIn a b l = false := by unfold okIn; rw [decide_eq_false (by omega : ¬ 0 ≤ a)]; rfl
    rw [e]
    refine evEnd (fun k => ?_)
    simp only [chunk_table.f, chunk_table.j0]
    rw [if_pos h0]
    rfl
  · by_cases h1 : b < 0
    · have e : okIn a b l = false := by unfold okIn; rw [decide_eq_false (by omega : ¬ 0 ≤ b), Bool.false_and, Bool.and_false]
      rw [e]
      refine evEnd (fun k => ?_)
      simp only [chunk_table.f, chunk_table.j0]
      rw [if_neg h0, if_pos (by simpa using h1)]
      rfl
    · have e : okIn a b l = riseB a b (-1) (-1) l := by unfold okIn; rw [decide_eq_true (by omega : 0 ≤ a), decide_eq_true (by omega : 0 ≤ b), Bool.true_and, Bool.true_and]
      rw [e]
      have h := table_loop a b l hl l.length 0 (List.replicate a.toNat (-1)) (-1) (-1) (by omega) (by omega) (by omega) (by simp; omega)
      rw [List.drop_zero] at h
      refine evTo h (fun k => ?_) rfl
      simp only [chunk_table.f, chunk_table.j0]
      rw [if_neg h0, if_neg (by simpa using h1)]
      unfold slices_Repeat_int_int.f
      rw [if_pos ⟨rfl, by omega, by omega⟩, Option.bind_some]
      rfl
end Go.Proofs.Ytkliaoikljjeaaa.X

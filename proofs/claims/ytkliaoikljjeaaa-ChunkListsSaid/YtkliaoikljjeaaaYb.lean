/-
  Plain law, part 2: the run of the sweep through two tables; chunk.Of and the reference's Of both tell it.
-/
import Derived.Test.YtkliaoikljjeaaaYa
import Derived.Test.YtkliaoikljjeaaaXo
import Derived.Test.YtkliaoikljjeaaaXf
namespace Go.Proofs.Ytkliaoikljjeaaa.X
open Go.RowKit Go.Proofs.YtkliaoikljjeaaaW.PrintWords Go.Proofs.YtkliaoikljjeaaaW.PrintLast Go.Proofs.YtkliaoikljjeaaaW.PrintMore

def Tog (M N : Int → Int) (base o a b j : Int) : Prop := o + j < base ∧ M (o + j) = a + j ∧ N (o + j) = b + j
def Stab (M N : Int → Int) (base o a b n : Int) : Prop := 0 ≤ n ∧ (∀ j, 0 ≤ j → j < n → Tog M N base o a b j) ∧ ¬ Tog M N base o a b n
def Skip (M N : Int → Int) (base a b i : Int) : Prop := i < base ∧ (M i < a ∨ N i < b)
def Nxt (M N : Int → Int) (base o a b t : Int) : Prop := o ≤ t ∧ (∀ i, o ≤ i → i < t → Skip M N base a b i) ∧ ¬ Skip M N base a b t
/-- What is left of the three lists, from (o, a, b) on, in chunks. -/
inductive Run (M N : Int → Int) (base left right : Int) : Int → Int → Int → List S40 → Prop
  | done {o a b : Int} : ¬ (o < base ∨ a < left ∨ b < right) → Run M N base left right o a b []
  | stab {o a b n : Int} {cs : List S40} : (o < base ∨ a < left ∨ b < right) → Stab M N base o a b n → 0 < n → Run M N base left right (o + n) (a + n) (b + n) cs →
      Run M N base left right o a b (⟨true, ⟨o, o + n⟩, ⟨a, a + n⟩, ⟨b, b + n⟩⟩ :: cs)
  | jump {o a b t : Int} {cs : List S40} : (o < base ∨ a < left ∨ b < right) → Stab M N base o a b 0 → Nxt M N base o a b t → t < base → Run M N base left right t (M t) (N t) cs →
      Run M N base left right o a b (⟨false, ⟨o, t⟩, ⟨a, M t⟩, ⟨b, N t⟩⟩ :: cs)
  | last {o a b t : Int} : (o < base ∨ a < left ∨ b < right) → Stab M N base o a b 0 → Nxt M N base o a b t → ¬ t < base →
      Run M N base left right o a b [⟨false, ⟨o, base⟩, ⟨a, left⟩, ⟨b, right⟩⟩]
/-- Where the sweep stands. -/
def Inv (base left right o a b : Int) : Prop := 0 ≤ o ∧ o ≤ base ∧ 0 ≤ a ∧ a ≤ left ∧ 0 ≤ b ∧ b ≤ right ∧ base ≤ 100 ∧ left ≤ 100 ∧ right ≤ 100
def Ranged (M : Int → Int) (top : Int) : Prop := ∀ i, M i = -1 ∨ (0 ≤ M i ∧ M i < top)

theorem ex_first (P : Int → Prop) (K : Nat) (h : ¬ P K) : ∃ n : Int, 0 ≤ n ∧ n ≤ K ∧ (∀ j, 0 ≤ j → j < n → P j) ∧ ¬ P n := by
  have key : ∀ d i : Nat, i + d = K → (∀ j : Int, 0 ≤ j → j < i → P j) → ∃ n : Int, 0 ≤ n ∧ n ≤ K ∧ (∀ j, 0 ≤ j → j < n → P j) ∧ ¬ P n := by
    intro d
    induction d with
    | zero =>
      intro i hi hp
      obtain rfl : i = K := by omega
      exact ⟨i, by omega, by omega, hp, h⟩
    | succ d ih =>
      intro i hi hp
      by_cases hP : P i
      · refine ih (i + 1) (by omega) (fun j h0 h1 => ?_)
        rcases Int.lt_or_eq_of_le (show j ≤ (i : Int) by omega) with h2 | h2
        · exact hp j h0 h2
        · rw [h2]; exact hP
      · exact ⟨i, by omega, by omega, hp, hP⟩
  exact key K 0 (by omega) (fun j h0 h1 => by omega)
theorem stab_ex (M N : Int → Int) (base o a b : Int) (h : o ≤ base) : ∃ n, Stab M N base o a b n := by
  obtain ⟨n, h0, _, h1, h2⟩ := ex_first (Tog M N base o a b) (base - o).toNat (fun h' => by have := h'.1; omega)
  exact ⟨n, h0, h1, h2⟩
theorem nxt_ex (M N : Int → Int) (base o a b : Int) (h : o ≤ base) : ∃ t, Nxt M N base o a b t := by
  obtain ⟨n, h0, _, h1, h2⟩ := ex_first (fun j => Skip M N base a b (o + j)) (base - o).toNat (fun h' => by have := h'.1; omega)
  refine ⟨o + n, by omega, fun i hi hlt => ?_, h2⟩
  have := h1 (i - o) (by omega) (by omega)
  have e : o + (i - o) = i := by omega
  simp only [e] at this
  exact this
theorem run_ex {M N : Int → Int} {base left right : Int} (hM : Ranged M left) (hN : Ranged N right) (m : Nat) : ∀ o a b : Int, Inv base left right o a b → (base - o) + (left - a) + (right - b) ≤ m →
    ∃ cs, Run M N base left right o a b cs ∧ (cs.length : Int) ≤ (base - o) + (left - a) + (right - b) := by
  induction m with
  | zero =>
    intro o a b hI hm
    obtain ⟨i1, i2, i3, i4, i5, i6, i7, i8, i9⟩ := hI
    exact ⟨[], .done (by omega), by simp; omega⟩
  | succ m ih =>
    intro o a b hI hm
    obtain ⟨i1, i2, i3, i4, i5, i6, i7, i8, i9⟩ := hI
    by_cases hc : o < base ∨ a < left ∨ b < right
    · obtain ⟨n, hs⟩ := stab_ex M N base o a b i2
      by_cases hn : 0 < n
      · have ht := hs.2.1 (n - 1) (by omega) (by omega)
        obtain ⟨t1, t2, t3⟩ := ht
        have m1 := hM (o + (n - 1))
        have m2 := hN (o + (n - 1))
        obtain ⟨cs, hr, hl⟩ := ih (o + n) (a + n) (b + n) ⟨by omega, by omega, by omega, by omega, by omega, by omega, i7, i8, i9⟩ (by omega)
        exact ⟨_, .stab hc hs hn hr, by simp; omega⟩
      · obtain rfl : n = 0 := by have := hs.1; omega
        obtain ⟨t, hx⟩ := nxt_ex M N base o a b i2
        by_cases ht : t < base
        · have m1 := hM t
          have m2 := hN t
          have hk : a ≤ M t ∧ b ≤ N t := by
            have := hx.2.2
            unfold Skip at this
            omega
          have hp : ¬ (t = o ∧ M t = a ∧ N t = b) := by
            rintro ⟨rfl, e2, e3⟩
            exact hs.2.2 ⟨by omega, by rw [Int.add_zero, Int.add_zero]; exact e2, by rw [Int.add_zero, Int.add_zero]; exact e3⟩
          have h1 := hx.1
          obtain ⟨cs, hr, hl⟩ := ih t (M t) (N t) ⟨by omega, by omega, by omega, by omega, by omega, by omega, i7, i8, i9⟩ (by omega)
          exact ⟨_, .jump hc hs hx ht hr, by simp; omega⟩
        · exact ⟨_, .last hc hs hx ht, by simp; omega⟩
    · exact ⟨[], .done hc, by simp; omega⟩

section
variable {M N : Int → Int} {base left right : Int} {X Y : List Int}
theorem tog_yes (hX : (X.length : Int) = base) (hY : (Y.length : Int) = base) (hx : ∀ i, 0 ≤ i → i < base → rd X i = M i) (hy : ∀ i, 0 ≤ i → i < base → rd Y i = N i) {o a b i : Int} (hI : Inv base left right o a b) (h0 : 0 ≤ i) (h1 : i ≤ 200)
    (h : Tog M N base o a b i) : chunk_sweep_together.f X Y o a b i = some (true, o, a, b) := by
  obtain ⟨i1, i2, i3, i4, i5, i6, i7, i8, i9⟩ := hI
  obtain ⟨t1, t2, t3⟩ := h
  unfold chunk_sweep_together.f
  rw [wr (x := o + i) (by omega) (by omega), wr (x := a + i) (by omega) (by omega), wr (x := b + i) (by omega) (by omega), hx _ (by omega) (by omega), hy _ (by omega) (by omega), if_pos (by omega), if_pos (by omega), if_pos t2, if_pos (by omega), t3]
  simp
theorem tog_no (hX : (X.length : Int) = base) (hY : (Y.length : Int) = base) (hx : ∀ i, 0 ≤ i → i < base → rd X i = M i) (hy : ∀ i, 0 ≤ i → i < base → rd Y i = N i) {o a b i : Int} (hI : Inv base left right o a b) (h0 : 0 ≤ i) (h1 : i ≤ 200)
    (h : ¬ Tog M N base o a b i) : chunk_sweep_together.f X Y o a b i = some (false, o, a, b) := by
  obtain ⟨i1, i2, i3, i4, i5, i6, i7, i8, i9⟩ := hI
  unfold chunk_sweep_together.f
  rw [wr (x := o + i) (by omega) (by omega), wr (x := a + i) (by omega) (by omega), wr (x := b + i) (by omega) (by omega)]
  by_cases hlt : o + i < base
  · rw [if_pos (by omega), if_pos (by omega), hx _ (by omega) hlt, hy _ (by omega) hlt]
    by_cases hm : M (o + i) = a + i
    · have hn : ¬ N (o + i) = b + i := fun hn => h ⟨hlt, hm, hn⟩
      rw [if_pos hm, if_pos (by omega), beq_eq_false_iff_ne.2 hn]
    · rw [if_neg hm]
  · rw [if_neg (by omega)]
theorem stab_le {o a b n : Int} (hs : Stab M N base o a b n) (hI : Inv base left right o a b) : n ≤ 100 := by
  obtain ⟨i1, i2, i3, i4, i5, i6, i7, i8, i9⟩ := hI
  rcases Int.lt_or_le 100 n with h | h
  · have := (hs.2.1 100 (by omega) h).1
    omega
  · exact h
theorem stable_loop (hX : (X.length : Int) = base) (hY : (Y.length : Int) = base) (hx : ∀ i, 0 ≤ i → i < base → rd X i = M i) (hy : ∀ i, 0 ≤ i → i < base → rd Y i = N i) {o a b n : Int} (hI : Inv base left right o a b) (hs : Stab M N base o a b n) (d : Nat) :
    ∀ i : Int, 0 ≤ i → i + d = n → Ev (fun k => chunk_sweep_stable.l0 k i X Y o a b) (n, o, a, b) := by
  have hn := stab_le hs hI
  induction d with
  | zero =>
    intro i h0 hd
    obtain rfl : i = n := by omega
    refine evEnd (fun k => ?_)
    simp only [chunk_sweep_stable.l0]
    rw [tog_no hX hY hx hy hI h0 (by omega) hs.2.2, Option.bind_some, if_neg (by simp)]
  | succ d ih =>
    intro i h0 hd
    refine evTo (ih (i + 1) (by omega) (by omega)) (fun k => ?_) rfl
    simp only [chunk_sweep_stable.l0]
    rw [tog_yes hX hY hx hy hI h0 (by omega) (hs.2.1 i h0 (by omega)), Option.bind_some, if_pos rfl, wr (by omega) (by omega)]
theorem stable_ev (hX : (X.length : Int) = base) (hY : (Y.length : Int) = base) (hx : ∀ i, 0 ≤ i → i < base → rd X i = M i) (hy : ∀ i, 0 ≤ i → i < base → rd Y i = N i) {o a b n : Int} (hI : Inv base left right o a b) (hs : Stab M N base o a b n) :
    Ev (fun k => chunk_sweep_stable.f k X Y o a b) (n, o, a, b) :=
  stable_loop hX hY hx hy hI hs n.toNat 0 (by omega) (by have := hs.1; omega)
theorem nxt_le {o a b t : Int} (hs : Nxt M N base o a b t) (hI : Inv base left right o a b) : t ≤ base := by
  obtain ⟨i1, i2, i3, i4, i5, i6, i7, i8, i9⟩ := hI
  rcases Int.lt_or_le base t with h | h
  · have := (hs.2.1 base (by omega) h).1
    omega
  · exact h
theorem next_loop (hX : (X.length : Int) = base) (hY : (Y.length : Int) = base) (hx : ∀ i, 0 ≤ i → i < base → rd X i = M i) (hy : ∀ i, 0 ≤ i → i < base → rd Y i = N i) {o a b t : Int} (hI : Inv base left right o a b) (hs : Nxt M N base o a b t) (d : Nat) :
    ∀ i : Int, o ≤ i → i + d = t → Ev (fun k => chunk_sweep_next.l0 k i X Y o a b) (t, o, a, b) := by
  have hn := nxt_le hs hI
  obtain ⟨i1, i2, i3, i4, i5, i6, i7, i8, i9⟩ := hI
  induction d with
  | zero =>
    intro i h0 hd
    obtain rfl : i = t := by omega
    refine evEnd (fun k => ?_)
    have hk := hs.2.2
    unfold Skip at hk
    simp only [chunk_sweep_next.l0]
    by_cases hlt : i < base
    · rw [if_pos (by omega), if_pos (by omega), hx _ (by omega) hlt, hy _ (by omega) hlt, if_neg (by omega), if_pos (by omega), if_neg (by omega)]
    · rw [if_neg (by omega)]
  | succ d ih =>
    intro i h0 hd
    obtain ⟨k1, k2⟩ := hs.2.1 i h0 (by omega)
    refine evTo (ih (i + 1) (by omega) (by omega)) (fun k => ?_) rfl
    simp only [chunk_sweep_next.l0]
    rw [if_pos (by omega), if_pos (by omega), hx _ (by omega) k1, hy _ (by omega) k1, wr (by omega) (by omega)]
    by_cases hm : M i < a
    · rw [if_pos hm]
    · rw [if_neg hm, if_pos (by omega), if_pos (by omega)]
theorem next_ev (hX : (X.length : Int) = base) (hY : (Y.length : Int) = base) (hx : ∀ i, 0 ≤ i → i < base → rd X i = M i) (hy : ∀ i, 0 ≤ i → i < base → rd Y i = N i) {o a b t : Int} (hI : Inv base left right o a b) (hs : Nxt M N base o a b t) :
    Ev (fun k => chunk_sweep_next.f k X Y o a b) (t, o, a, b) :=
  next_loop hX hY hx hy hI hs (t - o).toNat o (by omega) (by have := hs.1; omega)
end

section
variable {M N : Int → Int} {base left right : Int}
theorem inv_stab {o a b n : Int} (hM : Ranged M left) (hN : Ranged N right) (hI : Inv base left right o a b) (hs : Stab M N base o a b n) (hn : 0 < n) : Inv base left right (o + n) (a + n) (b + n) := by
  obtain ⟨i1, i2, i3, i4, i5, i6, i7, i8, i9⟩ := hI
  obtain ⟨t1, t2, t3⟩ := hs.2.1 (n - 1) (by omega) (by omega)
  have m1 := hM (o + (n - 1))
  have m2 := hN (o + (n - 1))
  exact ⟨by omega, by omega, by omega, by omega, by omega, by omega, i7, i8, i9⟩
theorem nxt_ge {o a b t : Int} (hx : Nxt M N base o a b t) (ht : t < base) : a ≤ M t ∧ b ≤ N t := by
  have := hx.2.2
  unfold Skip at this
  omega
theorem inv_jump {o a b t : Int} (hM : Ranged M left) (hN : Ranged N right) (hI : Inv base left right o a b) (hx : Nxt M N base o a b t) (ht : t < base) : Inv base left right t (M t) (N t) := by
  obtain ⟨i1, i2, i3, i4, i5, i6, i7, i8, i9⟩ := hI
  have m1 := hM t
  have m2 := hN t
  have hk := nxt_ge hx ht
  have h1 := hx.1
  exact ⟨by omega, by omega, by omega, by omega, by omega, by omega, i7, i8, i9⟩

theorem OfL_cond {X Y : List Int} {out : List S40} {o a b : Int} {r : List S40 × Int × Int × Int × Int} (hc : o < base ∨ a < left ∨ b < right) (h : Ev (fun k => chunk_OfL.j1 k base left right X Y out true X Y o a b) r) :
    Ev (fun k => chunk_OfL.l0 k base left right X Y out X Y o a b) r := by
  refine evTo h (fun k => ?_) rfl
  simp only [chunk_OfL.l0]
  by_cases h1 : o < base
  · rw [if_pos h1]
  · rw [if_neg h1]
    by_cases h2 : a < left
    · rw [if_pos h2]
    · rw [if_neg h2, decide_eq_true (by omega : b < right)]
theorem OfL_done {X Y : List Int} {out : List S40} {o a b : Int} (hc : ¬ (o < base ∨ a < left ∨ b < right)) : Ev (fun k => chunk_OfL.l0 k base left right X Y out X Y o a b) (out, 0, o, a, b) := by
  have h : Ev (fun k => chunk_OfL.j1 k base left right X Y out false X Y o a b) (out, 0, o, a, b) := evEnd (fun k => by simp only [chunk_OfL.j1]; rw [if_neg (by decide)])
  refine evTo h (fun k => ?_) rfl
  simp only [chunk_OfL.l0]
  rw [if_neg (by omega), if_neg (by omega), decide_eq_false (by omega : ¬ b < right)]
theorem OfL_j1 {X Y : List Int} {out : List S40} {o a b n : Int} {r : List S40 × Int × Int × Int × Int} (hst : Ev (fun k => chunk_sweep_stable.f k X Y o a b) (n, o, a, b))
    (h : Ev (fun k => if n = 0 then ((chunk_sweep_next.f k X Y o a b).bind fun bt128 => (if bt128.1 < base then (if 0 ≤ bt128.1 then (if bt128.1 < (X.length : Int) then (if bt128.1 < (Y.length : Int) then (if out.length < 2513169434916 then (chunk_OfL.l0 k base left right X Y (out ++ [(⟨decide (n > 0), (⟨bt128.2.1, bt128.1⟩ : S38), (⟨bt128.2.2.1, rd X bt128.1⟩ : S38), (⟨bt128.2.2.2, rd Y bt128.1⟩ : S38)⟩ : S40)]) X Y bt128.1 (rd X bt128.1) (rd Y bt128.1)) else (none)) else (none)) else (none)) else (none)) else (if out.length < 2513169434916 then (chunk_OfL.l0 k base left right X Y (out ++ [(⟨decide (n > 0), (⟨bt128.2.1, base⟩ : S38), (⟨bt128.2.2.1, left⟩ : S38), (⟨bt128.2.2.2, right⟩ : S38)⟩ : S40)]) X Y base left right) else (none))))
      else (if out.length < 2513169434916 then (chunk_OfL.l0 k base left right X Y (out ++ [(⟨decide (n > 0), (⟨o, wrap64 (o + n)⟩ : S38), (⟨a, wrap64 (a + n)⟩ : S38), (⟨b, wrap64 (b + n)⟩ : S38)⟩ : S40)]) X Y (wrap64 (o + n)) (wrap64 (a + n)) (wrap64 (b + n))) else (none))) r) :
    Ev (fun k => chunk_OfL.j1 k base left right X Y out true X Y o a b) r := by
  refine Ev.step (fun k => ?_) (Ev.bind (f := fun k bt124 => (if bt124.1 = 0 then ((chunk_sweep_next.f k X Y bt124.2.1 bt124.2.2.1 bt124.2.2.2).bind fun bt128 => (if bt128.1 < base then (if 0 ≤ bt128.1 then (if bt128.1 < (X.length : Int) then (if bt128.1 < (Y.length : Int) then (if out.length < 2513169434916 then (chunk_OfL.l0 k base left right X Y (out ++ [(⟨decide (bt124.1 > 0), (⟨bt128.2.1, bt128.1⟩ : S38), (⟨bt128.2.2.1, rd X bt128.1⟩ : S38), (⟨bt128.2.2.2, rd Y bt128.1⟩ : S38)⟩ : S40)]) X Y bt128.1 (rd X bt128.1) (rd Y bt128.1)) else (none)) else (none)) else (none)) else (none)) else (if out.length < 2513169434916 then (chunk_OfL.l0 k base left right X Y (out ++ [(⟨decide (bt124.1 > 0), (⟨bt128.2.1, base⟩ : S38), (⟨bt128.2.2.1, left⟩ : S38), (⟨bt128.2.2.2, right⟩ : S38)⟩ : S40)]) X Y base left right) else (none)))) else (if out.length < 2513169434916 then (chunk_OfL.l0 k base left right X Y (out ++ [(⟨decide (bt124.1 > 0), (⟨bt124.2.1, wrap64 (bt124.2.1 + bt124.1)⟩ : S38), (⟨bt124.2.2.1, wrap64 (bt124.2.2.1 + bt124.1)⟩ : S38), (⟨bt124.2.2.2, wrap64 (bt124.2.2.2 + bt124.1)⟩ : S38)⟩ : S40)]) X Y (wrap64 (bt124.2.1 + bt124.1)) (wrap64 (bt124.2.2.1 + bt124.1)) (wrap64 (bt124.2.2.2 + bt124.1))) else (none)))) hst h)
  simp only [chunk_OfL.j1]
  rw [if_pos trivial]
theorem OfL_run {X Y : List Int} (hX : (X.length : Int) = base) (hY : (Y.length : Int) = base) (hx : ∀ i, 0 ≤ i → i < base → rd X i = M i) (hy : ∀ i, 0 ≤ i → i < base → rd Y i = N i) (hM : Ranged M left) (hN : Ranged N right) {o a b : Int} {cs : List S40}
    (hr : Run M N base left right o a b cs) : ∀ out : List S40, Inv base left right o a b → out.length + cs.length ≤ 1000 → ∃ q3 q4 q5, Ev (fun k => chunk_OfL.l0 k base left right X Y out X Y o a b) (out ++ cs, 0, q3, q4, q5) := by
  induction hr with
  | done hc =>
    intro out hI hl
    rw [List.append_nil]
    exact ⟨_, _, _, OfL_done hc⟩
  | @stab o a b n cs hc hs hn hr ih =>
    intro out hI hl
    simp only [List.length_cons] at hl
    obtain ⟨q3, q4, q5, h⟩ := ih (out ++ [⟨true, ⟨o, o + n⟩, ⟨a, a + n⟩, ⟨b, b + n⟩⟩]) (inv_stab hM hN hI hs hn) (by simp; omega)
    have hle := stab_le hs hI
    have hst := stable_ev hX hY hx hy hI hs
    obtain ⟨i1, i2, i3, i4, i5, i6, i7, i8, i9⟩ := hI
    refine ⟨q3, q4, q5, OfL_cond hc (OfL_j1 hst (Ev.congr (fun k => ?_) (by simpa using h)))⟩
    rw [if_neg (by omega), if_pos (by omega), wr (x := o + n) (by omega) (by omega), wr (x := a + n) (by omega) (by omega), wr (x := b + n) (by omega) (by omega), decide_eq_true (by omega : n > 0)]
  | @jump o a b t cs hc hs hx' ht hr ih =>
    intro out hI hl
    simp only [List.length_cons] at hl
    obtain ⟨q3, q4, q5, h⟩ := ih (out ++ [⟨false, ⟨o, t⟩, ⟨a, M t⟩, ⟨b, N t⟩⟩]) (inv_jump hM hN hI hx' ht) (by simp; omega)
    have hst := stable_ev hX hY hx hy hI hs
    have hnx := next_ev hX hY hx hy hI hx'
    have h1 := hx'.1
    obtain ⟨i1, i2, i3, i4, i5, i6, i7, i8, i9⟩ := hI
    refine ⟨q3, q4, q5, OfL_cond hc (OfL_j1 hst (Ev.congr (fun k => if_pos rfl) (Ev.bind hnx (Ev.congr (fun k => ?_) (by simpa using h)))))⟩
    rw [if_pos ht, if_pos (by omega), if_pos (by omega), if_pos (by omega), if_pos (by omega), hx _ (by omega) ht, hy _ (by omega) ht, decide_eq_false (by omega : ¬ (0 : Int) > 0)]
  | @last o a b t hc hs hx' ht =>
    intro out hI hl
    have hst := stable_ev hX hY hx hy hI hs
    have hnx := next_ev hX hY hx hy hI hx'
    have h := OfL_done (X := X) (Y := Y) (base := base) (left := left) (right := right) (out := out ++ [⟨false, ⟨o, base⟩, ⟨a, left⟩, ⟨b, right⟩⟩]) (o := base) (a := left) (b := right) (by omega)
    simp only [List.length_cons] at hl
    refine ⟨_, _, _, OfL_cond hc (OfL_j1 hst (Ev.congr (fun k => if_pos rfl) (Ev.bind hnx (Ev.congr (fun k => ?_) h))))⟩
    rw [if_neg ht, if_pos (by omega), decide_eq_false (by omega : ¬ (0 : Int) > 0)]
end

def cw (p : S38) : S41 := ⟨p.f0, p.f1⟩
def cc (c : S40) : S43 := ⟨c.f0, cw c.f1, cw c.f2, cw c.f3⟩
section
variable {base left right : Int} {l r : List S65}
theorem ref_l1 (hl : l.length ≤ 1000) (hr : r.length ≤ 1000) {out : List S43} {o a b n : Int} {R : List S43 × Bool} (hI : Inv base left right o a b) (hs : Stab (fnd l) (fnd r) base o a b n)
    (h : Ev (fun k => tripartiteref06_Of.j4 k base left right l r out o a b n) R) (d : Nat) : ∀ i : Int, 0 ≤ i → i + d = n → Ev (fun k => tripartiteref06_Of.l1 k base left right l r out o a b i) R := by
  have hn := stab_le hs hI
  obtain ⟨i1, i2, i3, i4, i5, i6, i7, i8, i9⟩ := hI
  induction d with
  | zero =>
    intro i h0 hd
    obtain rfl : i = n := by omega
    have ht := hs.2.2
    by_cases hlt : o + i < base
    · by_cases hm : fnd l (o + i) = a + i
      · have hn' : ¬ fnd r (o + i) = b + i := fun hn' => ht ⟨hlt, hm, hn'⟩
        refine Ev.step (fun k => ?_) (Ev.bind (f := fun k t140 => if t140 = a + i then ((tripartiteref06_at.f k r (o + i)).bind fun t141 => (if t141 = b + i then (tripartiteref06_Of.l1 k base left right l r out o a b (wrap64 (i + 1))) else (tripartiteref06_Of.j4 k base left right l r out o a b i))) else (tripartiteref06_Of.j4 k base left right l r out o a b i)) (at_ev l (o + i) hl)
          (Ev.congr (fun k => if_pos hm) (Ev.bind (at_ev r (o + i) hr) (Ev.congr (fun k => if_neg hn') h))))
        simp only [tripartiteref06_Of.l1]
        rw [wr (x := o + i) (by omega) (by omega), wr (x := a + i) (by omega) (by omega), wr (x := b + i) (by omega) (by omega), if_pos hlt]
      · refine Ev.step (fun k => ?_) (Ev.bind (f := fun k t140 => if t140 = a + i then ((tripartiteref06_at.f k r (o + i)).bind fun t141 => (if t141 = b + i then (tripartiteref06_Of.l1 k base left right l r out o a b (wrap64 (i + 1))) else (tripartiteref06_Of.j4 k base left right l r out o a b i))) else (tripartiteref06_Of.j4 k base left right l r out o a b i)) (at_ev l (o + i) hl)
          (Ev.congr (fun k => if_neg hm) h))
        simp only [tripartiteref06_Of.l1]
        rw [wr (x := o + i) (by omega) (by omega), wr (x := a + i) (by omega) (by omega), wr (x := b + i) (by omega) (by omega), if_pos hlt]
    · refine evTo h (fun k => ?_) rfl
      simp only [tripartiteref06_Of.l1]
      rw [wr (x := o + i) (by omega) (by omega), if_neg hlt]
  | succ d ih =>
    intro i h0 hd
    obtain ⟨t1, t2, t3⟩ := hs.2.1 i h0 (by omega)
    refine Ev.step (fun k => ?_) (Ev.bind (f := fun k t140 => if t140 = a + i then ((tripartiteref06_at.f k r (o + i)).bind fun t141 => (if t141 = b + i then (tripartiteref06_Of.l1 k base left right l r out o a b (wrap64 (i + 1))) else (tripartiteref06_Of.j4 k base left right l r out o a b i))) else (tripartiteref06_Of.j4 k base left right l r out o a b i)) (at_ev l (o + i) hl)
      (Ev.congr (fun k => if_pos t2) (Ev.bind (at_ev r (o + i) hr) (Ev.congr (fun k => ?_) (ih (i + 1) (by omega) (by omega))))))
    · simp only [tripartiteref06_Of.l1]
      rw [wr (x := o + i) (by omega) (by omega), wr (x := a + i) (by omega) (by omega), wr (x := b + i) (by omega) (by omega), if_pos t1]
    · rw [if_pos t3, wr (x := i + 1) (by omega) (by omega)]
theorem ref_l2 (hl : l.length ≤ 1000) (hr : r.length ≤ 1000) {out : List S43} {o a b t : Int} {R : List S43 × Bool} {z0 : Bool} {z1 z2 z3 z4 z5 z6 : Int} (hI : Inv base left right o a b) (hs : Nxt (fnd l) (fnd r) base o a b t)
    (h : Ev (fun k => tripartiteref06_Of.j6 k base left right l r out t z0 z1 z2 z3 z4 z5 z6) R) (d : Nat) : ∀ i : Int, o ≤ i → i + d = t → Ev (fun k => tripartiteref06_Of.l2 k base left right l r out a b i z0 z1 z2 z3 z4 z5 z6) R := by
  have hn := nxt_le hs hI
  obtain ⟨i1, i2, i3, i4, i5, i6, i7, i8, i9⟩ := hI
  induction d with
  | zero =>
    intro i h0 hd
    obtain rfl : i = t := by omega
    have hk := hs.2.2
    unfold Skip at hk
    by_cases hlt : i < base
    · refine Ev.step (fun k => ?_) (Ev.bind (f := fun k t143 => if t143 < a then (tripartiteref06_Of.l2 k base left right l r out a b (wrap64 (i + 1)) z0 z1 z2 z3 z4 z5 z6) else ((tripartiteref06_at.f k r i).bind fun t144 => (if t144 < b then (tripartiteref06_Of.l2 k base left right l r out a b (wrap64 (i + 1)) z0 z1 z2 z3 z4 z5 z6) else (tripartiteref06_Of.j6 k base left right l r out i z0 z1 z2 z3 z4 z5 z6)))) (at_ev l i hl)
        (Ev.congr (fun k => if_neg (by omega)) (Ev.bind (at_ev r i hr) (Ev.congr (fun k => if_neg (by omega)) h))))
      simp only [tripartiteref06_Of.l2]
      rw [if_pos hlt]
    · refine evTo h (fun k => ?_) rfl
      simp only [tripartiteref06_Of.l2]
      rw [if_neg hlt]
  | succ d ih =>
    intro i h0 hd
    obtain ⟨k1, k2⟩ := hs.2.1 i h0 (by omega)
    by_cases hm : fnd l i < a
    · refine Ev.step (fun k => ?_) (Ev.bind (f := fun k t143 => if t143 < a then (tripartiteref06_Of.l2 k base left right l r out a b (wrap64 (i + 1)) z0 z1 z2 z3 z4 z5 z6) else ((tripartiteref06_at.f k r i).bind fun t144 => (if t144 < b then (tripartiteref06_Of.l2 k base left right l r out a b (wrap64 (i + 1)) z0 z1 z2 z3 z4 z5 z6) else (tripartiteref06_Of.j6 k base left right l r out i z0 z1 z2 z3 z4 z5 z6)))) (at_ev l i hl)
        (Ev.congr (fun k => ?_) (ih (i + 1) (by omega) (by omega))))
      · simp only [tripartiteref06_Of.l2]
        rw [if_pos k1]
      · rw [if_pos hm, wr (by omega) (by omega)]
    · refine Ev.step (fun k => ?_) (Ev.bind (f := fun k t143 => if t143 < a then (tripartiteref06_Of.l2 k base left right l r out a b (wrap64 (i + 1)) z0 z1 z2 z3 z4 z5 z6) else ((tripartiteref06_at.f k r i).bind fun t144 => (if t144 < b then (tripartiteref06_Of.l2 k base left right l r out a b (wrap64 (i + 1)) z0 z1 z2 z3 z4 z5 z6) else (tripartiteref06_Of.j6 k base left right l r out i z0 z1 z2 z3 z4 z5 z6)))) (at_ev l i hl)
        (Ev.congr (fun k => if_neg hm) (Ev.bind (at_ev r i hr) (Ev.congr (fun k => ?_) (ih (i + 1) (by omega) (by omega))))))
      · simp only [tripartiteref06_Of.l2]
        rw [if_pos k1]
      · rw [if_pos (by omega), wr (by omega) (by omega)]
theorem ref_cond {out : List S43} {o a b n : Int} {R : List S43 × Bool} (hl : l.length ≤ 1000) (hr : r.length ≤ 1000) (hI : Inv base left right o a b) (hs : Stab (fnd l) (fnd r) base o a b n) (hc : o < base ∨ a < left ∨ b < right)
    (h : Ev (fun k => tripartiteref06_Of.j4 k base left right l r out o a b n) R) : Ev (fun k => tripartiteref06_Of.l0 k base left right l r out o a b) R := by
  have h1 := ref_l1 hl hr hI hs h n.toNat 0 (by omega) (by have := hs.1; omega)
  have h2 : Ev (fun k => tripartiteref06_Of.j2 k base left right l r out o a b true) R := evTo h1 (fun k => by simp only [tripartiteref06_Of.j2]; rw [if_pos trivial]) rfl
  refine evTo h2 (fun k => ?_) rfl
  simp only [tripartiteref06_Of.l0]
  by_cases h1 : o < base
  · rw [if_pos h1]
  · rw [if_neg h1]
    by_cases h2 : a < left
    · rw [if_pos h2]
    · rw [if_neg h2, decide_eq_true (by omega : b < right)]
theorem ref_done {out : List S43} {o a b : Int} (hc : ¬ (o < base ∨ a < left ∨ b < right)) : Ev (fun k => tripartiteref06_Of.l0 k base left right l r out o a b) (out, true) := by
  have h : Ev (fun k => tripartiteref06_Of.j2 k base left right l r out o a b false) (out, true) := evEnd (fun k => by simp only [tripartiteref06_Of.j2]; rw [if_neg (by decide)])
  refine evTo h (fun k => ?_) rfl
  simp only [tripartiteref06_Of.l0]
  rw [if_neg (by omega), if_neg (by omega), decide_eq_false (by omega : ¬ b < right)]
theorem ref_run (hl : l.length ≤ 1000) (hr' : r.length ≤ 1000) (hM : Ranged (fnd l) left) (hN : Ranged (fnd r) right) {o a b : Int} {cs : List S40}
    (hr : Run (fnd l) (fnd r) base left right o a b cs) : ∀ out : List S43, Inv base left right o a b → out.length + cs.length ≤ 1000 → Ev (fun k => tripartiteref06_Of.l0 k base left right l r out o a b) (out ++ cs.map cc, true) := by
  induction hr with
  | done hc =>
    intro out hI hl
    rw [List.map_nil, List.append_nil]
    exact ref_done hc
  | @stab o a b n cs hc hs hn hr ih =>
    intro out hI hlen
    simp only [List.length_cons] at hlen
    have h := ih (out ++ [cc ⟨true, ⟨o, o + n⟩, ⟨a, a + n⟩, ⟨b, b + n⟩⟩]) (inv_stab hM hN hI hs hn) (by simp; omega)
    have hle := stab_le hs hI
    have hI' := hI
    obtain ⟨i1, i2, i3, i4, i5, i6, i7, i8, i9⟩ := hI
    refine ref_cond hl hr' hI' hs hc (evTo h (fun k => ?_) (by simp))
    simp only [tripartiteref06_Of.j4]
    rw [if_neg (by omega), if_pos (by omega), wr (x := o + n) (by omega) (by omega), wr (x := a + n) (by omega) (by omega), wr (x := b + n) (by omega) (by omega), decide_eq_true (by omega : n > 0)]
    rfl
  | @jump o a b t cs hc hs hx' ht hr ih =>
    intro out hI hlen
    simp only [List.length_cons] at hlen
    have h := ih (out ++ [cc ⟨false, ⟨o, t⟩, ⟨a, fnd l t⟩, ⟨b, fnd r t⟩⟩]) (inv_jump hM hN hI hx' ht) (by simp; omega)
    have hI' := hI
    obtain ⟨i1, i2, i3, i4, i5, i6, i7, i8, i9⟩ := hI
    have h6 : Ev (fun k => tripartiteref06_Of.j6 k base left right l r out t (decide ((0 : Int) > 0)) o (wrap64 (o + 0)) a (wrap64 (a + 0)) b (wrap64 (b + 0))) (out ++ (List.map cc (⟨false, ⟨o, t⟩, ⟨a, fnd l t⟩, ⟨b, fnd r t⟩⟩ :: cs)), true) := by
      refine Ev.step (fun k => ?_) (Ev.bind (f := fun k t145 => ((tripartiteref06_at.f k r t).bind fun t146 => (if out.length < 2513169434916 then (tripartiteref06_Of.l0 k base left right l r (out ++ [(⟨decide ((0 : Int) > 0), (⟨o, t⟩ : S41), (⟨a, t145⟩ : S41), (⟨b, t146⟩ : S41)⟩ : S43)]) t t145 t146) else (none)))) (at_ev l t hl)
        (Ev.bind (at_ev r t hr') (Ev.congr (fun k => ?_) (by simpa using h))))
      · simp only [tripartiteref06_Of.j6]
        rw [if_pos ht]
      · rw [if_pos (by omega), decide_eq_false (by omega : ¬ (0 : Int) > 0)]
        rfl
    have h2 := ref_l2 hl hr' hI' hx' h6 (t - o).toNat o (by omega) (by have := hx'.1; omega)
    refine ref_cond hl hr' hI' hs hc (evTo h2 (fun k => ?_) rfl)
    simp only [tripartiteref06_Of.j4]
    rw [if_pos trivial]
  | @last o a b t hc hs hx' ht =>
    intro out hI hlen
    simp only [List.length_cons] at hlen
    have h := ref_done (l := l) (r := r) (base := base) (left := left) (right := right) (out := out ++ [cc ⟨false, ⟨o, base⟩, ⟨a, left⟩, ⟨b, right⟩⟩]) (o := base) (a := left) (b := right) (by omega)
    have hI' := hI
    have h6 : Ev (fun k => tripartiteref06_Of.j6 k base left right l r out t (decide ((0 : Int) > 0)) o (wrap64 (o + 0)) a (wrap64 (a + 0)) b (wrap64 (b + 0))) (out ++ (List.map cc [⟨false, ⟨o, base⟩, ⟨a, left⟩, ⟨b, right⟩⟩]), true) := by
      refine evTo h (fun k => ?_) (by simp)
      simp only [tripartiteref06_Of.j6]
      rw [if_neg ht, if_pos (by omega), decide_eq_false (by omega : ¬ (0 : Int) > 0)]
      rfl
    have h2 := ref_l2 hl hr' hI' hx' h6 (t - o).toNat o (by omega) (by have := hx'.1; omega)
    refine ref_cond hl hr' hI' hs hc (evTo h2 (fun k => ?_) rfl)
    simp only [tripartiteref06_Of.j4]
    rw [if_pos trivial]
end
end Go.Proofs.Ytkliaoikljjeaaa.X

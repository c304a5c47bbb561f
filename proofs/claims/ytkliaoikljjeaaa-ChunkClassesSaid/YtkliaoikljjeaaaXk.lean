-- Made by this session's programs (wip/prepatch.py, xprint.sh, assemble.py): the kit's printer over an input that this session patched, cut and joined with contracts proved by hand.
import Derived.Test.YtkliaoikljjeaaaXa
namespace Go.Proofs.Ytkliaoikljjeaaa.X
open Go.RowKit Go.Proofs.YtkliaoikljjeaaaW.PrintWords Go.Proofs.YtkliaoikljjeaaaW.PrintLast Go.Proofs.YtkliaoikljjeaaaW.PrintMore
attribute [local go_sem] max2_int min2_int max_two min_two max_three min_three max_four min_four   -- for this text's walks alone
set_option linter.unusedVariables false
set_option linter.unusedSimpArgs false

/-! ### tripartiteref06_Cut: function 18 -/
/-- A slice of strings that reads as a list in a memory; it may lie in any block. -/
def Rd (w : World) (v : Value) (xs : List ByteArray) : Prop := ∃ (A : Option Addr) (c : Nat), v = .slice A xs.length c ∧ xs.length ≤ c ∧ Kd.C Kd.string w A xs.length xs
theorem Rd.nil (w : World) : Rd w (.slice none 0 0) [] := ⟨none, 0, rfl, Nat.le_refl _, Kd.C_nil _ _⟩
theorem Rd.mk_ {w : World} {A : Option Addr} {n c : Nat} {xs : List ByteArray} (hn : xs.length = n) (hc : xs.length ≤ c) (h : Kd.C Kd.string w A xs.length xs) : Rd w (.slice A n c) xs := ⟨A, c, by rw [hn], hc, h⟩
theorem Rd.below {w w' : World} {b : Nat} {v : Value} {xs : List ByteArray} (h : Rd w v xs) (hb : Below b w w') (he : b = w.heap.size) : Rd w' v xs := by
 subst he
 obtain ⟨A, c, rfl, hc, hr⟩ := h
 exact ⟨A, c, rfl, hc, Kd.C_below hr hb⟩
theorem Rd.alloc {w : World} {v : Value} {xs : List ByteArray} {o : Obj} (h : Rd w v xs) : Rd (w.alloc o) v xs := h.below (below_alloc (Below.refl _ _) o) rfl
theorem Rd.drewN {w : World} {v : Value} {xs : List ByteArray} {m : Nat} (h : Rd w v xs) : Rd (w.drewN m) v xs := h.below (pw_below_drewN (Below.refl _ _) m) rfl
theorem Rd.drew {w : World} {v : Value} {xs : List ByteArray} (h : Rd w v xs) : Rd w.drew v xs := h.below (below_drew (Below.refl _ _)) rfl
theorem Rd.ofR {w : World} {e base : Nat} {ok : Nat → Prop} {v : Value} {xs : List ByteArray} (h : Kd.R Kd.string e w base ok v xs) : Rd w v xs := by
 obtain ⟨A, c, rfl⟩ := Kd.R_slice h
 exact ⟨A, c, rfl, (Kd.R_reads' h).2.1, (Kd.R_reads' h).2.2⟩
theorem Rd.slice {w : World} {v : Value} {xs : List ByteArray} (h : Rd w v xs) : ∃ A c, v = .slice A xs.length c := by
 obtain ⟨A, c, rfl, _⟩ := h
 exact ⟨A, c, rfl⟩
theorem Rd.reads {w : World} {A : Option Addr} {n c : Nat} {xs : List ByteArray} (h : Rd w (.slice A n c) xs) : xs.length ≤ c ∧ Kd.C Kd.string w A xs.length xs := by
 obtain ⟨A', c', e, hc, hr⟩ := h
 injection e with e1 e2 e3
 subst e1 e3
 exact ⟨hc, hr⟩
def tripartiteref06_Cut.f (a0_0 : Int) (a0_1 : Int) (l1 : List ByteArray) : Option (List ByteArray) := if a0_0 < 0 then (some ([] : List ByteArray)) else (if a0_1 > (l1.length : Int) then (some ([] : List ByteArray)) else (if a0_1 < a0_0 then (some ([] : List ByteArray)) else (if 0 ≤ a0_0 then (if a0_0 ≤ a0_1 then (if a0_1 ≤ (l1.length : Int) then (some ((l1.take (a0_1 : Int).toNat).drop (a0_0 : Int).toNat)) else (none)) else (none)) else (none))))
set_option maxHeartbeats 8000000 in
set_option maxRecDepth 100000 in
theorem tripartiteref06_Cut.calls (a0_0 : Int) (a0_1 : Int) (A1 : Option Addr) (c1 : Nat) (l1 : List ByteArray) (r : List ByteArray) (w : World) (hr1 : Kd.C Kd.string w A1 l1.length l1) (hc1 : l1.length ≤ c1) (h : tripartiteref06_Cut.f a0_0 a0_1 l1 = some r) :
  Calls Try.prog 18 #[.agg #[.int .i64 a0_0, .int .i64 a0_1], .slice A1 l1.length c1] w fun e w' => ∃ v0_ : Value, e = .returned (v0_) ∧ Rd w' v0_ r ∧ Below w.heap.size w w' := by
 have hu41 := Try.underlying41
 have HR1 := Aside0.mk hr1
 have HC1 := Aside0.mk hc1
 clear hr1 hc1
 have HB := Aside0.mk (Below.refl w.heap.size w)
 have H : (if a0_0 < 0 then (some ([] : List ByteArray)) else (if a0_1 > (l1.length : Int) then (some ([] : List ByteArray)) else (if a0_1 < a0_0 then (some ([] : List ByteArray)) else (if 0 ≤ a0_0 then (if a0_0 ≤ a0_1 then (if a0_1 ≤ (l1.length : Int) then (some ((l1.take (a0_1 : Int).toNat).drop (a0_0 : Int).toNat)) else (none)) else (none)) else (none))))) = some r := h
 clear h
 by_cases c3 : a0_0 < 0
 ·rw [if_pos c3] at H
  have c3b0 : decide (a0_0 < 0) = true := decide_eq_true c3
  clear c3
  obtain rfl := Option.some.inj H
  go_enter Try.func18, Try.ntmps18
  go_wp2_with (first | ((with_reducible refine gate_dst (N := 2) rfl ?_); (try (refine gate_guard (by rfl) ?_; dsimp only)); refine box_event ?hg (N := 2) ?hd (cs := #[.int .i64 a0_0, .int .i64 a0_1]) (t := 41) ?hr ?_; (case hd => rfl); (case hg => rfl); (case hr => first | (go_simp; done) | (go_simp; rfl)); intro gb314 hg w4 hbox hb; have n0_ := Aside0.mk (below_step (by repeat (first | (with_reducible first | exact HB.out | apply below_alloc | apply pw_below_drewN | apply below_drew1) | exact HB.out)) hb); have n1_ := Aside0.mk (hbox); have n2_ := Aside0.mk ((by rw [hg]; exact (below_size (by repeat (first | (with_reducible first | exact HB.out | apply below_alloc | apply pw_below_drewN | apply below_drew1) | exact HB.out))) : w.heap.size ≤ gb314)); have n3_ := Aside0.mk ((by rw [hg]; exact (below_size (by repeat (first | (with_reducible first | exact HB.out | apply below_alloc | apply pw_below_drewN | apply below_drew1) | exact HB.out))) : w.heap.size ≤ gb314)); clear HB; have HB := n0_; have BK314 := n1_; have GW314 := n2_; have GE314 := n3_; clear n0_ n1_ n2_ n3_; clear hb hbox hg; have hcz5_0 : w4.cell? ⟨gb314, 0, none⟩ = some (.int .i64 a0_0) := (blk_cell BK314.out 0).trans rfl; have hcz5_1 : w4.cell? ⟨gb314, 1, none⟩ = some (.int .i64 a0_1) := (blk_cell BK314.out 1).trans rfl; have hfz5_0 := blk_frozen BK314.out 0; have hfz5_1 := blk_frozen BK314.out 1))
  go_ret
  exact ⟨_, rfl, Rd.nil _, by repeat (first | (with_reducible first | exact HB.out | apply below_alloc | apply pw_below_drewN | apply below_drew1 | refine below_set ?_ GE314.out) | exact HB.out)⟩
 ·rw [if_neg c3] at H
  have c3b0 : decide (a0_0 < 0) = false := decide_eq_false c3
  clear c3
  by_cases c6 : a0_1 > (l1.length : Int)
  ·rw [if_pos c6] at H
   have c6b0 : decide ((l1.length : Int) < a0_1) = true := decide_eq_true c6
   clear c6
   obtain rfl := Option.some.inj H
   go_enter Try.func18, Try.ntmps18
   go_wp2_with (first | ((with_reducible refine gate_dst (N := 2) rfl ?_); (try (refine gate_guard (by rfl) ?_; dsimp only)); refine box_event ?hg (N := 2) ?hd (cs := #[.int .i64 a0_0, .int .i64 a0_1]) (t := 41) ?hr ?_; (case hd => rfl); (case hg => rfl); (case hr => first | (go_simp; done) | (go_simp; rfl)); intro gb314 hg w7 hbox hb; have n0_ := Aside0.mk (below_step (by repeat (first | (with_reducible first | exact HB.out | apply below_alloc | apply pw_below_drewN | apply below_drew1) | exact HB.out)) hb); have n1_ := Aside0.mk (hbox); have n2_ := Aside0.mk ((by rw [hg]; exact (below_size (by repeat (first | (with_reducible first | exact HB.out | apply below_alloc | apply pw_below_drewN | apply below_drew1) | exact HB.out))) : w.heap.size ≤ gb314)); have n3_ := Aside0.mk ((by rw [hg]; exact (below_size (by repeat (first | (with_reducible first | exact HB.out | apply below_alloc | apply pw_below_drewN | apply below_drew1) | exact HB.out))) : w.heap.size ≤ gb314)); clear HB; have HB := n0_; have BK314 := n1_; have GW314 := n2_; have GE314 := n3_; clear n0_ n1_ n2_ n3_; clear hb hbox hg; have hcz8_0 : w7.cell? ⟨gb314, 0, none⟩ = some (.int .i64 a0_0) := (blk_cell BK314.out 0).trans rfl; have hcz8_1 : w7.cell? ⟨gb314, 1, none⟩ = some (.int .i64 a0_1) := (blk_cell BK314.out 1).trans rfl; have hfz8_0 := blk_frozen BK314.out 0; have hfz8_1 := blk_frozen BK314.out 1))
   go_ret
   exact ⟨_, rfl, Rd.nil _, by repeat (first | (with_reducible first | exact HB.out | apply below_alloc | apply pw_below_drewN | apply below_drew1 | refine below_set ?_ GE314.out) | exact HB.out)⟩
  ·rw [if_neg c6] at H
   have c6b0 : decide ((l1.length : Int) < a0_1) = false := decide_eq_false c6
   clear c6
   by_cases c9 : a0_1 < a0_0
   ·rw [if_pos c9] at H
    have c9b0 : decide (a0_1 < a0_0) = true := decide_eq_true c9
    clear c9
    obtain rfl := Option.some.inj H
    go_enter Try.func18, Try.ntmps18
    go_wp2_with (first | ((with_reducible refine gate_dst (N := 2) rfl ?_); (try (refine gate_guard (by rfl) ?_; dsimp only)); refine box_event ?hg (N := 2) ?hd (cs := #[.int .i64 a0_0, .int .i64 a0_1]) (t := 41) ?hr ?_; (case hd => rfl); (case hg => rfl); (case hr => first | (go_simp; done) | (go_simp; rfl)); intro gb314 hg w10 hbox hb; have n0_ := Aside0.mk (below_step (by repeat (first | (with_reducible first | exact HB.out | apply below_alloc | apply pw_below_drewN | apply below_drew1) | exact HB.out)) hb); have n1_ := Aside0.mk (hbox); have n2_ := Aside0.mk ((by rw [hg]; exact (below_size (by repeat (first | (with_reducible first | exact HB.out | apply below_alloc | apply pw_below_drewN | apply below_drew1) | exact HB.out))) : w.heap.size ≤ gb314)); have n3_ := Aside0.mk ((by rw [hg]; exact (below_size (by repeat (first | (with_reducible first | exact HB.out | apply below_alloc | apply pw_below_drewN | apply below_drew1) | exact HB.out))) : w.heap.size ≤ gb314)); clear HB; have HB := n0_; have BK314 := n1_; have GW314 := n2_; have GE314 := n3_; clear n0_ n1_ n2_ n3_; clear hb hbox hg; have hcz11_0 : w10.cell? ⟨gb314, 0, none⟩ = some (.int .i64 a0_0) := (blk_cell BK314.out 0).trans rfl; have hcz11_1 : w10.cell? ⟨gb314, 1, none⟩ = some (.int .i64 a0_1) := (blk_cell BK314.out 1).trans rfl; have hfz11_0 := blk_frozen BK314.out 0; have hfz11_1 := blk_frozen BK314.out 1))
    go_ret
    exact ⟨_, rfl, Rd.nil _, by repeat (first | (with_reducible first | exact HB.out | apply below_alloc | apply pw_below_drewN | apply below_drew1 | refine below_set ?_ GE314.out) | exact HB.out)⟩
   ·rw [if_neg c9] at H
    have c9b0 : decide (a0_1 < a0_0) = false := decide_eq_false c9
    clear c9
    by_cases c12 : 0 ≤ a0_0
    ·rw [if_pos c12] at H
     have c12b0 := eq_true c12
     have c12b1 : decide (0 ≤ a0_0) = true := decide_eq_true c12
     clear c12
     by_cases c13 : a0_0 ≤ a0_1
     ·rw [if_pos c13] at H
      have c13b0 := eq_true c13
      have c13b1 : decide (a0_0 ≤ a0_1) = true := decide_eq_true c13
      clear c13
      by_cases c14 : a0_1 ≤ (l1.length : Int)
      ·rw [if_pos c14] at H
       have c14b0 := eq_true c14
       have c14b1 : decide (a0_1 ≤ (l1.length : Int)) = true := decide_eq_true c14
       clear c14
       obtain rfl := Option.some.inj H
       go_enter Try.func18, Try.ntmps18
       go_wp2_with (first | ((with_reducible refine gate_dst (N := 2) rfl ?_); (try (refine gate_guard (by rfl) ?_; dsimp only)); refine box_event ?hg (N := 2) ?hd (cs := #[.int .i64 a0_0, .int .i64 a0_1]) (t := 41) ?hr ?_; (case hd => rfl); (case hg => rfl); (case hr => first | (go_simp; done) | (go_simp; rfl)); intro gb314 hg w16 hbox hb; have n0_ := Aside0.mk (below_step (by repeat (first | (with_reducible first | exact HB.out | apply below_alloc | apply pw_below_drewN | apply below_drew1) | exact HB.out)) hb); have n1_ := Aside0.mk (hbox); have n2_ := Aside0.mk ((by rw [hg]; exact (below_size (by repeat (first | (with_reducible first | exact HB.out | apply below_alloc | apply pw_below_drewN | apply below_drew1) | exact HB.out))) : w.heap.size ≤ gb314)); have n3_ := Aside0.mk ((by rw [hg]; exact (below_size (by repeat (first | (with_reducible first | exact HB.out | apply below_alloc | apply pw_below_drewN | apply below_drew1) | exact HB.out))) : w.heap.size ≤ gb314)); clear HB; have HB := n0_; have BK314 := n1_; have GW314 := n2_; have GE314 := n3_; clear n0_ n1_ n2_ n3_; clear hb hbox hg; have hcz17_0 : w16.cell? ⟨gb314, 0, none⟩ = some (.int .i64 a0_0) := (blk_cell BK314.out 0).trans rfl; have hcz17_1 : w16.cell? ⟨gb314, 1, none⟩ = some (.int .i64 a0_1) := (blk_cell BK314.out 1).trans rfl; have hfz17_0 := blk_frozen BK314.out 0; have hfz17_1 := blk_frozen BK314.out 1; obtain ⟨i018, hi018, _, hsz18, _⟩ := info_parts info9; obtain ⟨A18, hcut18, hA18, hC18⟩ := print_mid_of (P := Try.prog) Value.string (⟨#[]⟩ : ByteArray) 48 9 .i64 .i64 Try.underlying48 hi018 hsz18 A1 c1 l1 a0_0 a0_1 (of_decide_eq_true (by first | (with_reducible assumption) | assumption)) (by first | omega | exact of_decide_eq_true (by first | (with_reducible assumption) | assumption)) (of_decide_eq_true (by first | (with_reducible assumption) | assumption)) HC1.out; have HR315 := Aside0.mk (Kd.C_of_reads (h1 := fun _ => rfl) (hA18 _ (Kd.reads_of_C HR1.out))); have HC315 := Aside0.mk hC18; clear hA18 hC18 hi018 hsz18))
       go_ret
       have hlen : ((l1.take (a0_1 : Int).toNat).drop (a0_0 : Int).toNat).length = a0_1.toNat - a0_0.toNat := by rw [List.length_drop, List.length_take]; have h_ : (a0_1 : Int) ≤ (l1.length : Int) := of_decide_eq_true (by first | (with_reducible assumption) | assumption); omega
       exact ⟨_, rfl, Rd.mk_ hlen HC315.out (by (repeat (first | exact (Kd.C_below HR315.out HB.out) | (with_reducible refine Kd.C_alloc ?_ _) | (with_reducible refine Kd.C_drewN ?_ _) | (with_reducible refine Kd.C_drew ?_)))), by repeat (first | (with_reducible first | exact HB.out | apply below_alloc | apply pw_below_drewN | apply below_drew1 | refine below_set ?_ GE314.out) | exact HB.out)⟩
      ·rw [if_neg c14] at H
       exact absurd H (by simp)
     ·rw [if_neg c13] at H
      exact absurd H (by simp)
    ·rw [if_neg c12] at H
     exact absurd H (by simp)

end Go.Proofs.Ytkliaoikljjeaaa.X

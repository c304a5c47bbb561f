-- Made by this session's programs (wip/prepatch.py, xprint.sh, assemble.py): the kit's printer over an input that this session patched, cut and joined with contracts proved by hand.
import Derived.Test.YtkliaoikljjeaaaXa
import Derived.Lib.SliceRun
namespace Go.Proofs.Ytkliaoikljjeaaa.X
open Go.RowKit Go.Proofs.YtkliaoikljjeaaaW.PrintWords Go.Proofs.YtkliaoikljjeaaaW.PrintLast Go.Proofs.YtkliaoikljjeaaaW.PrintMore
attribute [local go_sem] max2_int min2_int max_two min_two max_three min_three max_four min_four   -- for this text's walks alone
set_option linter.unusedVariables false
set_option linter.unusedSimpArgs false

/-! ### slices_Clone_string_string: function 27 -/
def slices_Clone_string_string.f (l0 : List ByteArray) : Option (List ByteArray) := if l0.length < 8796093022208 then some l0 else none
set_option maxHeartbeats 1000000 in
theorem slices_Clone_string_string.calls (A0 : Option Addr) (c0 : Nat) (l0 : List ByteArray) (r : List ByteArray) (w : World) (hr0 : Kd.C Kd.string w A0 l0.length l0) (hc0 : l0.length ≤ c0) (h : slices_Clone_string_string.f l0 = some r) :
  Calls Try.prog 27 #[.slice A0 l0.length c0] w fun e w' => ∃ v0_ : Value, e = .returned (v0_) ∧ Kd.R Kd.string 9 w' w.heap.size (fun _ => True) v0_ r ∧ Below w.heap.size w w' := by
 unfold slices_Clone_string_string.f at h
 by_cases hlim : l0.length < 8796093022208
 ·rw [if_pos hlim] at h
  obtain rfl := Option.some.inj h
  have LM := Aside0.mk hlim
  clear h hlim
  cases A0 with
  | none =>
   have h0 : l0 = [] := by
    rcases Nat.eq_zero_or_pos l0.length with h | h
    ·exact List.eq_nil_of_length_eq_zero h
    ·obtain ⟨ad, he, _⟩ := hr0.2.2 h
     cases he
   subst h0
   clear hr0 hc0
   have hq := fun (W : World) (n c : Nat) => Lib.run_eql_slice_nil (P := Try.prog) W 48 9 none n c 0 0 Try.underlying48
   go_enter Try.func27, Try.ntmps27
   go_wp2
   go_ret
   exact ⟨_, rfl, Kd.R_nil _ _ _ _ _, Below.refl _ _⟩
  | some a =>
   have HR0 := Aside0.mk hr0
   have HC0 := Aside0.mk hc0
   clear hr0 hc0
   have HB := Aside0.mk (Below.refl w.heap.size w)
   have hq := fun (W : World) (n c : Nat) => Lib.run_eql_slice_nil (P := Try.prog) W 48 9 (some a) n c 0 0 Try.underlying48
   go_enter Try.func27, Try.ntmps27
   go_wp2_with (first | ((with_reducible refine gate_dst (N := 5) rfl ?_); refine Kd.R_lit Kd.string _ 9 ?hg (N := 5) ?hd (xs := ([] : List ByteArray)) (inner := []) (ok := fun _ => True) (okp := fun _ => True) ?hr ?hp (fun _ hk => hk) trivial (Below.refl _ _) (Nat.le_refl _) (by simp) ?_; (case hd => rfl); (case hg => rfl); (case hr => first | (go_simp; done) | (go_simp; rfl)); (case hp => exact (Reps.none _ _)); intro v158 w3 ho4 hb hg_ hnew_; clear hg_ hnew_; have n0_ := Aside0.mk (Kd.R_lower ho4 (below_size HB.out)); have n1_ := Aside0.mk (below_step HB.out hb); clear HB; have HO159 := n0_; have HB := n1_; clear n0_ n1_; clear hb ho4) | ((with_reducible refine gate_builtin (b := .append) (xs := #[.tmp 5, .tmp 6]) rfl ?_); at_builtin; refine Kd.R_append_rows Kd.string (w0 := w) w.heap.size rfl (.tmp 5) (.tmp 6) 48 9 (.string ⟨#[]⟩) 16 rfl Try.underlying48 info9 rfl (by decide) (by omega) v158 [] l0 _ _ _ (fun _ => True) (fun _ => False) rfl rfl ?aO ?aR (fun _ _ h => h) (fun _ h => h.elim) ?aF ?aB ?aS ?aL ?_; (case aR => repeat (first | exact (Kd.C_below HR0.out HB.out) | (with_reducible refine Kd.C_alloc ?_ _) | (with_reducible refine Kd.C_drewN ?_ _) | (with_reducible refine Kd.C_drew ?_))); (case aB => exact HB.out); (case aF => exact (fun _ _ => trivial)); (case aO => exact HO159.out); (case aS => exact (below_size HB.out)); (case aL => have := LM.out; simp; omega); intro v161 w5 ho hb hg hat; rw [List.nil_append] at ho; have n0_ := Aside0.mk (hb); have n1_ := Aside0.mk (ho); clear HB; clear HO159; have HB := n0_; have HO162 := n1_; clear n0_ n1_; clear ho hb hg hat))
   go_ret
   exact ⟨_, rfl, HO162.out, HB.out⟩
 ·rw [if_neg hlim] at h
  cases h

/-! ### chunk_Span_Cut: function 17 -/
def chunk_Span_Cut.f (a0_0 : Int) (a0_1 : Int) (l1 : List ByteArray) : Option (List ByteArray) := if a0_0 < 0 then (some ([] : List ByteArray)) else (if a0_1 > (l1.length : Int) then (some ([] : List ByteArray)) else (if a0_1 < a0_0 then (some ([] : List ByteArray)) else (if 0 ≤ a0_0 then (if a0_0 ≤ a0_1 then (if a0_1 ≤ (l1.length : Int) then ((slices_Clone_string_string.f ((l1.take (a0_1 : Int).toNat).drop (a0_0 : Int).toNat)).bind fun t165 => (some t165)) else (none)) else (none)) else (none))))
set_option maxHeartbeats 8000000 in
set_option maxRecDepth 100000 in
theorem chunk_Span_Cut.calls (a0_0 : Int) (a0_1 : Int) (A1 : Option Addr) (c1 : Nat) (l1 : List ByteArray) (r : List ByteArray) (w : World) (hr1 : Kd.C Kd.string w A1 l1.length l1) (hc1 : l1.length ≤ c1) (h : chunk_Span_Cut.f a0_0 a0_1 l1 = some r) :
  Calls Try.prog 17 #[.agg #[.int .i64 a0_0, .int .i64 a0_1], .slice A1 l1.length c1] w fun e w' => ∃ v0_ : Value, e = .returned (v0_) ∧ Kd.R Kd.string 9 w' w.heap.size (fun _ => True) v0_ r ∧ Below w.heap.size w w' := by
 have hu38 := Try.underlying38
 have HR1 := Aside0.mk hr1
 have HC1 := Aside0.mk hc1
 clear hr1 hc1
 have HB := Aside0.mk (Below.refl w.heap.size w)
 have H : (if a0_0 < 0 then (some ([] : List ByteArray)) else (if a0_1 > (l1.length : Int) then (some ([] : List ByteArray)) else (if a0_1 < a0_0 then (some ([] : List ByteArray)) else (if 0 ≤ a0_0 then (if a0_0 ≤ a0_1 then (if a0_1 ≤ (l1.length : Int) then ((slices_Clone_string_string.f ((l1.take (a0_1 : Int).toNat).drop (a0_0 : Int).toNat)).bind fun t165 => (some t165)) else (none)) else (none)) else (none))))) = some r := h
 clear h
 by_cases c3 : a0_0 < 0
 ·rw [if_pos c3] at H
  have c3b0 : decide (a0_0 < 0) = true := decide_eq_true c3
  clear c3
  obtain rfl := Option.some.inj H
  go_enter Try.func17, Try.ntmps17
  go_wp2_with (first | ((with_reducible refine gate_dst (N := 2) rfl ?_); (try (refine gate_guard (by rfl) ?_; dsimp only)); refine box_event ?hg (N := 2) ?hd (cs := #[.int .i64 a0_0, .int .i64 a0_1]) (t := 38) ?hr ?_; (case hd => rfl); (case hg => rfl); (case hr => first | (go_simp; done) | (go_simp; rfl)); intro gb163 hg w4 hbox hb; have n0_ := Aside0.mk (below_step (by repeat (first | (with_reducible first | exact HB.out | apply below_alloc | apply pw_below_drewN | apply below_drew1) | exact HB.out)) hb); have n1_ := Aside0.mk (hbox); have n2_ := Aside0.mk ((by rw [hg]; exact (below_size (by repeat (first | (with_reducible first | exact HB.out | apply below_alloc | apply pw_below_drewN | apply below_drew1) | exact HB.out))) : w.heap.size ≤ gb163)); have n3_ := Aside0.mk ((by rw [hg]; exact (below_size (by repeat (first | (with_reducible first | exact HB.out | apply below_alloc | apply pw_below_drewN | apply below_drew1) | exact HB.out))) : w.heap.size ≤ gb163)); clear HB; have HB := n0_; have BK163 := n1_; have GW163 := n2_; have GE163 := n3_; clear n0_ n1_ n2_ n3_; clear hb hbox hg; have hcz5_0 : w4.cell? ⟨gb163, 0, none⟩ = some (.int .i64 a0_0) := (blk_cell BK163.out 0).trans rfl; have hcz5_1 : w4.cell? ⟨gb163, 1, none⟩ = some (.int .i64 a0_1) := (blk_cell BK163.out 1).trans rfl; have hfz5_0 := blk_frozen BK163.out 0; have hfz5_1 := blk_frozen BK163.out 1))
  go_ret
  exact ⟨_, by first | rfl | (simp [errW_none, errW_some] <;> rfl) | (simp [*, errW_none, errW_some] <;> rfl), by first | exact Kd.R_nil _ _ _ _ _ | exact Kd.N_nil _ _ _ _ _ | exact Kd.V_nil _ _ _ _ _ | exact Kd.Q_nil _ _ _ _ _ | exact Kd.S_nil _ _ _ _ _, by repeat (first | (with_reducible first | exact HB.out | apply below_alloc | apply pw_below_drewN | apply below_drew1 | refine below_set ?_ GE163.out) | exact HB.out)⟩
 ·rw [if_neg c3] at H
  have c3b0 : decide (a0_0 < 0) = false := decide_eq_false c3
  clear c3
  by_cases c6 : a0_1 > (l1.length : Int)
  ·rw [if_pos c6] at H
   have c6b0 : decide ((l1.length : Int) < a0_1) = true := decide_eq_true c6
   clear c6
   obtain rfl := Option.some.inj H
   go_enter Try.func17, Try.ntmps17
   go_wp2_with (first | ((with_reducible refine gate_dst (N := 2) rfl ?_); (try (refine gate_guard (by rfl) ?_; dsimp only)); refine box_event ?hg (N := 2) ?hd (cs := #[.int .i64 a0_0, .int .i64 a0_1]) (t := 38) ?hr ?_; (case hd => rfl); (case hg => rfl); (case hr => first | (go_simp; done) | (go_simp; rfl)); intro gb163 hg w7 hbox hb; have n0_ := Aside0.mk (below_step (by repeat (first | (with_reducible first | exact HB.out | apply below_alloc | apply pw_below_drewN | apply below_drew1) | exact HB.out)) hb); have n1_ := Aside0.mk (hbox); have n2_ := Aside0.mk ((by rw [hg]; exact (below_size (by repeat (first | (with_reducible first | exact HB.out | apply below_alloc | apply pw_below_drewN | apply below_drew1) | exact HB.out))) : w.heap.size ≤ gb163)); have n3_ := Aside0.mk ((by rw [hg]; exact (below_size (by repeat (first | (with_reducible first | exact HB.out | apply below_alloc | apply pw_below_drewN | apply below_drew1) | exact HB.out))) : w.heap.size ≤ gb163)); clear HB; have HB := n0_; have BK163 := n1_; have GW163 := n2_; have GE163 := n3_; clear n0_ n1_ n2_ n3_; clear hb hbox hg; have hcz8_0 : w7.cell? ⟨gb163, 0, none⟩ = some (.int .i64 a0_0) := (blk_cell BK163.out 0).trans rfl; have hcz8_1 : w7.cell? ⟨gb163, 1, none⟩ = some (.int .i64 a0_1) := (blk_cell BK163.out 1).trans rfl; have hfz8_0 := blk_frozen BK163.out 0; have hfz8_1 := blk_frozen BK163.out 1))
   go_ret
   exact ⟨_, by first | rfl | (simp [errW_none, errW_some] <;> rfl) | (simp [*, errW_none, errW_some] <;> rfl), by first | exact Kd.R_nil _ _ _ _ _ | exact Kd.N_nil _ _ _ _ _ | exact Kd.V_nil _ _ _ _ _ | exact Kd.Q_nil _ _ _ _ _ | exact Kd.S_nil _ _ _ _ _, by repeat (first | (with_reducible first | exact HB.out | apply below_alloc | apply pw_below_drewN | apply below_drew1 | refine below_set ?_ GE163.out) | exact HB.out)⟩
  ·rw [if_neg c6] at H
   have c6b0 : decide ((l1.length : Int) < a0_1) = false := decide_eq_false c6
   clear c6
   by_cases c9 : a0_1 < a0_0
   ·rw [if_pos c9] at H
    have c9b0 : decide (a0_1 < a0_0) = true := decide_eq_true c9
    clear c9
    obtain rfl := Option.some.inj H
    go_enter Try.func17, Try.ntmps17
    go_wp2_with (first | ((with_reducible refine gate_dst (N := 2) rfl ?_); (try (refine gate_guard (by rfl) ?_; dsimp only)); refine box_event ?hg (N := 2) ?hd (cs := #[.int .i64 a0_0, .int .i64 a0_1]) (t := 38) ?hr ?_; (case hd => rfl); (case hg => rfl); (case hr => first | (go_simp; done) | (go_simp; rfl)); intro gb163 hg w10 hbox hb; have n0_ := Aside0.mk (below_step (by repeat (first | (with_reducible first | exact HB.out | apply below_alloc | apply pw_below_drewN | apply below_drew1) | exact HB.out)) hb); have n1_ := Aside0.mk (hbox); have n2_ := Aside0.mk ((by rw [hg]; exact (below_size (by repeat (first | (with_reducible first | exact HB.out | apply below_alloc | apply pw_below_drewN | apply below_drew1) | exact HB.out))) : w.heap.size ≤ gb163)); have n3_ := Aside0.mk ((by rw [hg]; exact (below_size (by repeat (first | (with_reducible first | exact HB.out | apply below_alloc | apply pw_below_drewN | apply below_drew1) | exact HB.out))) : w.heap.size ≤ gb163)); clear HB; have HB := n0_; have BK163 := n1_; have GW163 := n2_; have GE163 := n3_; clear n0_ n1_ n2_ n3_; clear hb hbox hg; have hcz11_0 : w10.cell? ⟨gb163, 0, none⟩ = some (.int .i64 a0_0) := (blk_cell BK163.out 0).trans rfl; have hcz11_1 : w10.cell? ⟨gb163, 1, none⟩ = some (.int .i64 a0_1) := (blk_cell BK163.out 1).trans rfl; have hfz11_0 := blk_frozen BK163.out 0; have hfz11_1 := blk_frozen BK163.out 1))
    go_ret
    exact ⟨_, by first | rfl | (simp [errW_none, errW_some] <;> rfl) | (simp [*, errW_none, errW_some] <;> rfl), by first | exact Kd.R_nil _ _ _ _ _ | exact Kd.N_nil _ _ _ _ _ | exact Kd.V_nil _ _ _ _ _ | exact Kd.Q_nil _ _ _ _ _ | exact Kd.S_nil _ _ _ _ _, by repeat (first | (with_reducible first | exact HB.out | apply below_alloc | apply pw_below_drewN | apply below_drew1 | refine below_set ?_ GE163.out) | exact HB.out)⟩
   ·rw [if_neg c9] at H
    have c9b0 : decide (a0_1 < a0_0) = false := decide_eq_false c9
    clear c9
    by_cases c12 : 0 ≤ a0_0
    ·rw [if_pos c12] at H
     have c12b0 := eq_true c12
     have c12b1 : decide (0 ≤ a0_0) = true := decide_eq_true c12
     clear c12
     by_cases c13 : a0_0 ≤ a0_1
     ·rw [if_pos c13] at H
      have c13b0 := eq_true c13
      have c13b1 : decide (a0_0 ≤ a0_1) = true := decide_eq_true c13
      clear c13
      by_cases c14 : a0_1 ≤ (l1.length : Int)
      ·rw [if_pos c14] at H
       have c14b0 := eq_true c14
       have c14b1 : decide (a0_1 ≤ (l1.length : Int)) = true := decide_eq_true c14
       clear c14
       replace H := Option.bind_eq_some_iff.mp H
       obtain ⟨t165, A150, H⟩ := H
       replace H : (some t165) = some r := H
       have A15 := Aside0.mk A150
       clear A150
       obtain rfl := Option.some.inj H
       go_enter Try.func17, Try.ntmps17
       go_wp2_with (first | ((with_reducible refine gate_dst (N := 2) rfl ?_); (try (refine gate_guard (by rfl) ?_; dsimp only)); refine box_event ?hg (N := 2) ?hd (cs := #[.int .i64 a0_0, .int .i64 a0_1]) (t := 38) ?hr ?_; (case hd => rfl); (case hg => rfl); (case hr => first | (go_simp; done) | (go_simp; rfl)); intro gb163 hg w16 hbox hb; have n0_ := Aside0.mk (below_step (by repeat (first | (with_reducible first | exact HB.out | apply below_alloc | apply pw_below_drewN | apply below_drew1) | exact HB.out)) hb); have n1_ := Aside0.mk (hbox); have n2_ := Aside0.mk ((by rw [hg]; exact (below_size (by repeat (first | (with_reducible first | exact HB.out | apply below_alloc | apply pw_below_drewN | apply below_drew1) | exact HB.out))) : w.heap.size ≤ gb163)); have n3_ := Aside0.mk ((by rw [hg]; exact (below_size (by repeat (first | (with_reducible first | exact HB.out | apply below_alloc | apply pw_below_drewN | apply below_drew1) | exact HB.out))) : w.heap.size ≤ gb163)); clear HB; have HB := n0_; have BK163 := n1_; have GW163 := n2_; have GE163 := n3_; clear n0_ n1_ n2_ n3_; clear hb hbox hg; have hcz17_0 : w16.cell? ⟨gb163, 0, none⟩ = some (.int .i64 a0_0) := (blk_cell BK163.out 0).trans rfl; have hcz17_1 : w16.cell? ⟨gb163, 1, none⟩ = some (.int .i64 a0_1) := (blk_cell BK163.out 1).trans rfl; have hfz17_0 := blk_frozen BK163.out 0; have hfz17_1 := blk_frozen BK163.out 1; obtain ⟨i018, hi018, _, hsz18, _⟩ := info_parts info9; obtain ⟨A18, hcut18, hA18, hC18⟩ := print_mid_of (P := Try.prog) Value.string (⟨#[]⟩ : ByteArray) 48 9 .i64 .i64 Try.underlying48 hi018 hsz18 A1 c1 l1 a0_0 a0_1 (of_decide_eq_true (by first | (with_reducible assumption) | assumption)) (by first | omega | exact of_decide_eq_true (by first | (with_reducible assumption) | assumption)) (of_decide_eq_true (by first | (with_reducible assumption) | assumption)) HC1.out; have HR164 := Aside0.mk (Kd.C_of_reads (h1 := fun _ => rfl) (hA18 _ (Kd.reads_of_C HR1.out))); have HC164 := Aside0.mk hC18; clear hA18 hC18 hi018 hsz18) | ((with_reducible refine gate_callee (f := 27) rfl ?_); refine goesL_ (some 28) rfl rfl Try.func27 (by kernel_rfl) rfl #[.slice A18 ((l1.take (a0_1 : Int).toNat).drop (a0_0 : Int).toNat).length (c1 - a0_0.toNat)] rfl (by (try simp only [List.map_toArray, List.map_cons, List.map_nil]); first | done | (rw [show ((l1.take (a0_1 : Int).toNat).drop (a0_0 : Int).toNat).length = (a0_1.toNat - a0_0.toNat) from (by rw [List.length_drop, List.length_take]; have h_ : (a0_1 : Int) ≤ (l1.length : Int) := of_decide_eq_true (by first | (with_reducible assumption) | assumption); omega)] <;> rfl) | rfl | (simp only [List.length_drop, List.length_take]; rfl)) ?_; (with_reducible refine (slices_Clone_string_string.calls _ _ ((l1.take (a0_1 : Int).toNat).drop (a0_0 : Int).toNat) t165 _ ?side1 ?side2 A15.out).mono ?_); (case side1 => repeat (first | exact (Kd.C_below HR164.out HB.out) | (with_reducible refine Kd.C_alloc ?_ _) | (with_reducible refine Kd.C_drewN ?_ _) | (with_reducible refine Kd.C_drew ?_))); (case side2 => exact HC164.out); rintro e w19 ⟨v166, rfl, ho0, hb⟩; refine ⟨_, rfl, ?_⟩; have n0_ := Aside0.mk (Kd.R_lower ho0 (below_size (by repeat (first | (with_reducible first | exact HB.out | apply below_alloc | apply pw_below_drewN | apply below_drew1 | refine below_set ?_ GE163.out) | exact HB.out)))); have n1_ := Aside0.mk (blk_below (g := gb163) (o := .cells #[.int .i64 a0_0, .int .i64 a0_1] 38 (0, 0)) (by (with_reducible repeat (first | refine blk_drewN ?_ _ | refine blk_drew ?_ | refine blk_alloc ?_ _)); exact BK163.out) hb); have n2_ := Aside0.mk (below_step (by repeat (first | (with_reducible first | exact HB.out | apply below_alloc | apply pw_below_drewN | apply below_drew1 | refine below_set ?_ GE163.out) | exact HB.out)) hb); clear BK163; clear HB; have HO167 := n0_; have BK163 := n1_; have HB := n2_; clear n0_ n1_ n2_; (try clear hb); (try clear hb2); (try clear hk); (try clear hi); (try clear ho0)))
       go_ret
       exact ⟨_, by first | rfl | (simp [errW_none, errW_some] <;> rfl) | (simp [*, errW_none, errW_some] <;> rfl), by (with_reducible repeat (first | apply Kd.R_alloc | apply Kd.R_drewN | apply Kd.R_drew)); exact HO167.out, by repeat (first | (with_reducible first | exact HB.out | apply below_alloc | apply pw_below_drewN | apply below_drew1 | refine below_set ?_ GE163.out) | exact HB.out)⟩
      ·rw [if_neg c14] at H
       exact absurd H (by simp)
     ·rw [if_neg c13] at H
      exact absurd H (by simp)
    ·rw [if_neg c12] at H
     exact absurd H (by simp)

end Go.Proofs.Ytkliaoikljjeaaa.X

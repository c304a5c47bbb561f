-- Made by this session's programs (wip/prepatch.py, xprint.sh, assemble.py): the kit's printer over an input that this session patched, cut and joined with contracts proved by hand.
import Derived.Test.YtkliaoikljjeaaaXa
import Derived.Test.YtkliaoikljjeaaaXt
import Derived.Test.YtkliaoikljjeaaaXs
namespace Go.Proofs.Ytkliaoikljjeaaa.X
open Go.RowKit Go.Proofs.YtkliaoikljjeaaaW.PrintWords Go.Proofs.YtkliaoikljjeaaaW.PrintLast Go.Proofs.YtkliaoikljjeaaaW.PrintMore
attribute [local go_sem] max2_int min2_int max_two min_two max_three min_three max_four min_four   -- for this text's walks alone
set_option linter.unusedVariables false
set_option linter.unusedSimpArgs false

/-! ### chunk_Of: function 6 -/
mutual
def chunk_OfL.l0 : Nat → Int → Int → Int → List Int → List Int → List (S40) → List Int → List Int → Int → Int → Int → Option ((List (S40)) × Int × Int × Int × Int)
 | 0, _, _, _, _, _, _, _, _, _, _, _ => none
 | k + 1, x0, x1, x2, x12, x14, x17, x6000, x6001, x6002, x6003, x6004 => if x6002 < x0 then (chunk_OfL.j1 k x0 x1 x2 x12 x14 x17 true x6000 x6001 x6002 x6003 x6004) else (if x6003 < x1 then (chunk_OfL.j1 k x0 x1 x2 x12 x14 x17 true x6000 x6001 x6002 x6003 x6004) else (chunk_OfL.j1 k x0 x1 x2 x12 x14 x17 (decide (x6004 < x2)) x6000 x6001 x6002 x6003 x6004))
def chunk_OfL.j1 : Nat → Int → Int → Int → List Int → List Int → List (S40) → Bool → List Int → List Int → Int → Int → Int → Option ((List (S40)) × Int × Int × Int × Int)
 | 0, _, _, _, _, _, _, _, _, _, _, _, _ => none
 | k + 1, x0, x1, x2, x12, x14, x17, x68, x6000, x6001, x6002, x6003, x6004 => if x68 = true then ((chunk_sweep_stable.f k x6000 x6001 x6002 x6003 x6004).bind fun bt124 => (if bt124.1 = 0 then ((chunk_sweep_next.f k x6000 x6001 bt124.2.1 bt124.2.2.1 bt124.2.2.2).bind fun bt128 => (if bt128.1 < x0 then (if 0 ≤ bt128.1 then (if bt128.1 < (x12.length : Int) then (if bt128.1 < (x14.length : Int) then (if x17.length < 2513169434916 then (chunk_OfL.l0 k x0 x1 x2 x12 x14 (x17 ++ [(⟨decide (bt124.1 > 0), (⟨bt128.2.1, bt128.1⟩ : S38), (⟨bt128.2.2.1, rd x12 bt128.1⟩ : S38), (⟨bt128.2.2.2, rd x14 bt128.1⟩ : S38)⟩ : S40)]) x6000 x6001 bt128.1 (rd x12 bt128.1) (rd x14 bt128.1)) else (none)) else (none)) else (none)) else (none)) else (if x17.length < 2513169434916 then (chunk_OfL.l0 k x0 x1 x2 x12 x14 (x17 ++ [(⟨decide (bt124.1 > 0), (⟨bt128.2.1, x0⟩ : S38), (⟨bt128.2.2.1, x1⟩ : S38), (⟨bt128.2.2.2, x2⟩ : S38)⟩ : S40)]) x6000 x6001 x0 x1 x2) else (none)))) else (if x17.length < 2513169434916 then (chunk_OfL.l0 k x0 x1 x2 x12 x14 (x17 ++ [(⟨decide (bt124.1 > 0), (⟨bt124.2.1, wrap64 (bt124.2.1 + bt124.1)⟩ : S38), (⟨bt124.2.2.1, wrap64 (bt124.2.2.1 + bt124.1)⟩ : S38), (⟨bt124.2.2.2, wrap64 (bt124.2.2.2 + bt124.1)⟩ : S38)⟩ : S40)]) x6000 x6001 (wrap64 (bt124.2.1 + bt124.1)) (wrap64 (bt124.2.2.1 + bt124.1)) (wrap64 (bt124.2.2.2 + bt124.1))) else (none)))) else (some (x17, 0, x6002, x6003, x6004))
end
def chunk_OfL.f (k : Nat) (a0 : Int) (a1 : Int) (a2 : Int) (l3 : List Int) (l4 : List Int) (s5_0 : List Int) (s5_1 : List Int) (s5_2 : Int) (s5_3 : Int) (s5_4 : Int) : Option ((List (S40)) × Int × Int × Int × Int) := chunk_OfL.l0 k a0 a1 a2 l3 l4 ([] : List (S40)) s5_0 s5_1 s5_2 s5_3 s5_4
theorem chunk_OfL.mono_l : ∀ k, (∀ y0 y1 y2 y3 y4 y5 y6 y7 y8 y9 y10, LeO (chunk_OfL.l0 k y0 y1 y2 y3 y4 y5 y6 y7 y8 y9 y10) (chunk_OfL.l0 (k + 1) y0 y1 y2 y3 y4 y5 y6 y7 y8 y9 y10)) ∧ (∀ y0 y1 y2 y3 y4 y5 y6 y7 y8 y9 y10 y11, LeO (chunk_OfL.j1 k y0 y1 y2 y3 y4 y5 y6 y7 y8 y9 y10 y11) (chunk_OfL.j1 (k + 1) y0 y1 y2 y3 y4 y5 y6 y7 y8 y9 y10 y11))
 | 0 => ⟨fun _ _ _ _ _ _ _ _ _ _ _ r h => by simp [chunk_OfL.l0] at h, fun _ _ _ _ _ _ _ _ _ _ _ _ r h => by simp [chunk_OfL.j1] at h⟩
 | k + 1 => by
  obtain ⟨ih0, ih1⟩ := chunk_OfL.mono_l k
  refine ⟨?_, ?_⟩
  ·intro y0 y1 y2 y3 y4 y5 y6 y7 y8 y9 y10
   unfold chunk_OfL.l0
   repeat' first
   | (with_reducible exact ih0 _ _ _ _ _ _ _ _ _ _ _)
   | (with_reducible exact ih1 _ _ _ _ _ _ _ _ _ _ _ _)
   | (with_reducible exact chunk_sweep_next.mono _ _ _ _ _ _)
   | (with_reducible exact chunk_sweep_stable.mono _ _ _ _ _ _)
   | (with_reducible exact LeO.refl _)
   | (with_reducible exact LeO.none _)
   | (with_reducible refine LeO.ite ?_ ?_)
   | (with_reducible refine LeO.bind ?_ (fun _ => ?_))
   | exact ih0 _ _ _ _ _ _ _ _ _ _ _
   | exact ih1 _ _ _ _ _ _ _ _ _ _ _ _
   | exact chunk_sweep_next.mono _ _ _ _ _ _
   | exact chunk_sweep_stable.mono _ _ _ _ _ _
   | exact LeO.none _
   | refine LeO.ite ?_ ?_
   | refine LeO.bind ?_ (fun _ => ?_)
  ·intro y0 y1 y2 y3 y4 y5 y6 y7 y8 y9 y10 y11
   unfold chunk_OfL.j1
   repeat' first
   | (with_reducible exact ih0 _ _ _ _ _ _ _ _ _ _ _)
   | (with_reducible exact ih1 _ _ _ _ _ _ _ _ _ _ _ _)
   | (with_reducible exact chunk_sweep_next.mono _ _ _ _ _ _)
   | (with_reducible exact chunk_sweep_stable.mono _ _ _ _ _ _)
   | (with_reducible exact LeO.refl _)
   | (with_reducible exact LeO.none _)
   | (with_reducible refine LeO.ite ?_ ?_)
   | (with_reducible refine LeO.bind ?_ (fun _ => ?_))
   | exact ih0 _ _ _ _ _ _ _ _ _ _ _
   | exact ih1 _ _ _ _ _ _ _ _ _ _ _ _
   | exact chunk_sweep_next.mono _ _ _ _ _ _
   | exact chunk_sweep_stable.mono _ _ _ _ _ _
   | exact LeO.none _
   | refine LeO.ite ?_ ?_
   | refine LeO.bind ?_ (fun _ => ?_)
theorem chunk_OfL.mono : ∀ a0 a1 a2 a3 a4 a5 a6 a7 a8 a9 k, LeO (chunk_OfL.f k a0 a1 a2 a3 a4 a5 a6 a7 a8 a9) (chunk_OfL.f (k + 1) a0 a1 a2 a3 a4 a5 a6 a7 a8 a9) := by
 intro a0 a1 a2 a3 a4 a5 a6 a7 a8 a9 k
 obtain ⟨ih0, ih1⟩ := chunk_OfL.mono_l k
 unfold chunk_OfL.f
 repeat' first
   | (with_reducible exact ih0 _ _ _ _ _ _ _ _ _ _ _)
   | (with_reducible exact ih1 _ _ _ _ _ _ _ _ _ _ _ _)
   | (with_reducible exact chunk_sweep_next.mono _ _ _ _ _ _)
   | (with_reducible exact chunk_sweep_stable.mono _ _ _ _ _ _)
   | (with_reducible exact LeO.refl _)
   | (with_reducible exact LeO.none _)
   | (with_reducible refine LeO.ite ?_ ?_)
   | (with_reducible refine LeO.bind ?_ (fun _ => ?_))
   | exact ih0 _ _ _ _ _ _ _ _ _ _ _
   | exact ih1 _ _ _ _ _ _ _ _ _ _ _ _
   | exact chunk_sweep_next.mono _ _ _ _ _ _
   | exact chunk_sweep_stable.mono _ _ _ _ _ _
   | exact LeO.none _
   | refine LeO.ite ?_ ?_
   | refine LeO.bind ?_ (fun _ => ?_)

def chunk_Of.f (k : Nat) (a0 : Int) (a1 : Int) (a2 : Int) (l3 : List (S66)) (l4 : List (S66)) : Option ((List (S40)) × Int) := (chunk_table.f k a0 a1 l3).bind fun bt1 => ((chunk_table.f k a0 a2 l4).bind fun bt2 => (if bt1.2 = true then (if bt2.2 = true then ((chunk_OfL.f k a0 a1 a2 bt1.1 bt2.1 bt1.1 bt2.1 0 0 0).bind fun q => (some (q.1, q.2.1))) else (some (([] : List (S40)), 12))) else (some (([] : List (S40)), 12))))
theorem chunk_Of.mono : ∀ a0 a1 a2 a3 a4 k, LeO (chunk_Of.f k a0 a1 a2 a3 a4) (chunk_Of.f (k + 1) a0 a1 a2 a3 a4) := by
 intro a0 a1 a2 a3 a4 k
 unfold chunk_Of.f
 refine LeO.bind (chunk_table.mono _ _ _ k) (fun _ => LeO.bind (chunk_table.mono _ _ _ k) (fun _ => ?_))
 exact LeO.ite (LeO.ite (LeO.bind (chunk_OfL.mono _ _ _ _ _ _ _ _ _ _ k) (fun _ => LeO.refl _)) (LeO.refl _)) (LeO.refl _)
def chunk_Of.T15 : Bool × List (List Nat × List Nat) := (true, [([], []), ([], []), ([1], [1]), ([], []), ([3], [3]), ([4], [4]), ([5], [5]), ([], []), ([6, 7], [6, 7]), ([], []), ([9], [9]), ([10], [10]), ([11], [11]), ([], []), ([12, 13], [12, 13]), ([], []), ([15], [15]), ([16], [16]), ([17], [17]), ([], []), ([18, 19], [18, 19]), ([2, 8, 14, 20], [2, 8, 14, 20]), ([21], [21]), ([0, 22], [0, 22]), ([23, 23, 0, 1, 2, 3, 4, 5, 6, 7, 8, 9, 10, 11, 12, 13, 14, 15, 16, 17, 18, 19, 20, 21, 22, 23], [0, 23])])
def chunk_Of.B15 : List Nat := [0, 0, 2, 0, 8, 24, 56, 0, 248, 0, 512, 1536, 3584, 0, 15872, 0, 32768, 98304, 229376, 0, 1015808, 2097150, 4194302, 8388607, 16777215]
theorem chunk_Of.tab15 : rtab .any (opsOf Try.f6 15) = chunk_Of.T15 := by kernel_rfl
theorem chunk_Of.bits15 : waitsOk chunk_Of.T15.2 chunk_Of.B15 = true := by kernel_rfl
set_option maxHeartbeats 8000000 in
set_option maxRecDepth 100000 in
theorem chunk_Of.calls (k : Nat) (a0 : Int) (a1 : Int) (a2 : Int) (A3 : Option Addr) (c3 : Nat) (l3 : List (S66)) (A4 : Option Addr) (c4 : Nat) (l4 : List (S66)) (r1 : List (S40)) (r2 : Int) (w : World) (hr3 : Kd.C k66 w A3 l3.length l3) (hc3 : l3.length ≤ c3) (hr4 : Kd.C k66 w A4 l4.length l4) (hc4 : l4.length ≤ c4) (h : chunk_Of.f k a0 a1 a2 l3 l4 = some (r1, r2)) :
  Calls Try.prog 6 #[.int .i64 a0, .int .i64 a1, .int .i64 a2, .slice A3 l3.length c3, .slice A4 l4.length c4] w fun e w' => ∃ v0_ : Value, e = .returned (.tuple #[v0_, .int .i64 r2]) ∧ Kd.R k40 40 w' w.heap.size (fun _ => True) v0_ r1 ∧ Below w.heap.size w w' := by
 have hu38 := Try.underlying38
 have hu40 := Try.underlying40
 have hu63 := Try.underlying63
 unfold chunk_Of.f at h
 replace h := Option.bind_eq_some_iff.mp h
 obtain ⟨⟨t1, o1⟩, A10, h⟩ := h
 replace h := Option.bind_eq_some_iff.mp h
 obtain ⟨⟨t2, o2⟩, A20, h⟩ := h
 have A1 := Aside0.mk A10
 have A2 := Aside0.mk A20
 clear A10 A20
 have HR3 := Aside0.mk hr3
 have HC3 := Aside0.mk hc3
 have HR4 := Aside0.mk hr4
 have HC4 := Aside0.mk hc4
 clear hr3 hc3 hr4 hc4
 cases o1 with
 | false =>
  cases o2 with
  | false =>
   simp only [if_true, if_false, Bool.false_eq_true] at h
   obtain ⟨rfl, rfl⟩ := Prod.mk.inj (Option.some.inj h)
   clear h
   go_enter Try.func6, Try.ntmps6
   go_wp2_with (first | ((with_reducible refine gate_callee (f := 21) rfl ?_); refine goesL_ (some 27) rfl rfl Try.func21 (by kernel_rfl) rfl #[.int .i64 a0, .int .i64 a1, .slice A3 l3.length c3] rfl (by (try simp only [List.map_toArray, List.map_cons, List.map_nil]); first | done | rfl | (simp only [List.length_drop, List.length_take]; rfl)) ?_; (with_reducible refine (chunk_table.calls k a0 a1 _ _ l3 t1 false _ ?side1 ?side2 A1.out).mono ?_); (case side1 => exact HR3.out); (case side2 => exact HC3.out); rintro e w1 ⟨v1, rfl, ho, hb⟩; refine ⟨_, rfl, ?_⟩; have HO1 := Aside0.mk ho; have HB1 := Aside0.mk hb; clear ho hb) | ((with_reducible refine gate_callee (f := 21) rfl ?_); refine goesL_ (some 34) rfl rfl Try.func21 (by kernel_rfl) rfl #[.int .i64 a0, .int .i64 a2, .slice A4 l4.length c4] rfl (by (try simp only [List.map_toArray, List.map_cons, List.map_nil]); first | done | rfl | (simp only [List.length_drop, List.length_take]; rfl)) ?_; (with_reducible refine (chunk_table.calls k a0 a2 _ _ l4 t2 false _ ?side1 ?side2 A2.out).mono ?_); (case side1 => exact Kd.C_below HR4.out HB1.out); (case side2 => exact HC4.out); rintro e w2 ⟨v2, rfl, ho, hb⟩; refine ⟨_, rfl, ?_⟩; have HO2 := Aside0.mk ho; have HB2 := Aside0.mk (below_step HB1.out hb); have n0_ := Aside0.mk (Kd.R_below HO1.out hb); clear HO1; have HO1 := n0_; clear n0_ ho hb))
   go_ret2
   exact ⟨_, rfl, Kd.R_nil _ _ _ _ _, HB2.out⟩
  | true =>
   simp only [if_true, if_false, Bool.false_eq_true] at h
   obtain ⟨rfl, rfl⟩ := Prod.mk.inj (Option.some.inj h)
   clear h
   go_enter Try.func6, Try.ntmps6
   go_wp2_with (first | ((with_reducible refine gate_callee (f := 21) rfl ?_); refine goesL_ (some 27) rfl rfl Try.func21 (by kernel_rfl) rfl #[.int .i64 a0, .int .i64 a1, .slice A3 l3.length c3] rfl (by (try simp only [List.map_toArray, List.map_cons, List.map_nil]); first | done | rfl | (simp only [List.length_drop, List.length_take]; rfl)) ?_; (with_reducible refine (chunk_table.calls k a0 a1 _ _ l3 t1 false _ ?side1 ?side2 A1.out).mono ?_); (case side1 => exact HR3.out); (case side2 => exact HC3.out); rintro e w1 ⟨v1, rfl, ho, hb⟩; refine ⟨_, rfl, ?_⟩; have HO1 := Aside0.mk ho; have HB1 := Aside0.mk hb; clear ho hb) | ((with_reducible refine gate_callee (f := 21) rfl ?_); refine goesL_ (some 34) rfl rfl Try.func21 (by kernel_rfl) rfl #[.int .i64 a0, .int .i64 a2, .slice A4 l4.length c4] rfl (by (try simp only [List.map_toArray, List.map_cons, List.map_nil]); first | done | rfl | (simp only [List.length_drop, List.length_take]; rfl)) ?_; (with_reducible refine (chunk_table.calls k a0 a2 _ _ l4 t2 true _ ?side1 ?side2 A2.out).mono ?_); (case side1 => exact Kd.C_below HR4.out HB1.out); (case side2 => exact HC4.out); rintro e w2 ⟨v2, rfl, ho, hb⟩; refine ⟨_, rfl, ?_⟩; have HO2 := Aside0.mk ho; have HB2 := Aside0.mk (below_step HB1.out hb); have n0_ := Aside0.mk (Kd.R_below HO1.out hb); clear HO1; have HO1 := n0_; clear n0_ ho hb))
   go_ret2
   exact ⟨_, rfl, Kd.R_nil _ _ _ _ _, HB2.out⟩
 | true =>
  cases o2 with
  | false =>
   simp only [if_true, if_false, Bool.false_eq_true] at h
   obtain ⟨rfl, rfl⟩ := Prod.mk.inj (Option.some.inj h)
   clear h
   go_enter Try.func6, Try.ntmps6
   go_wp2_with (first | ((with_reducible refine gate_callee (f := 21) rfl ?_); refine goesL_ (some 27) rfl rfl Try.func21 (by kernel_rfl) rfl #[.int .i64 a0, .int .i64 a1, .slice A3 l3.length c3] rfl (by (try simp only [List.map_toArray, List.map_cons, List.map_nil]); first | done | rfl | (simp only [List.length_drop, List.length_take]; rfl)) ?_; (with_reducible refine (chunk_table.calls k a0 a1 _ _ l3 t1 true _ ?side1 ?side2 A1.out).mono ?_); (case side1 => exact HR3.out); (case side2 => exact HC3.out); rintro e w1 ⟨v1, rfl, ho, hb⟩; refine ⟨_, rfl, ?_⟩; have HO1 := Aside0.mk ho; have HB1 := Aside0.mk hb; clear ho hb) | ((with_reducible refine gate_callee (f := 21) rfl ?_); refine goesL_ (some 34) rfl rfl Try.func21 (by kernel_rfl) rfl #[.int .i64 a0, .int .i64 a2, .slice A4 l4.length c4] rfl (by (try simp only [List.map_toArray, List.map_cons, List.map_nil]); first | done | rfl | (simp only [List.length_drop, List.length_take]; rfl)) ?_; (with_reducible refine (chunk_table.calls k a0 a2 _ _ l4 t2 false _ ?side1 ?side2 A2.out).mono ?_); (case side1 => exact Kd.C_below HR4.out HB1.out); (case side2 => exact HC4.out); rintro e w2 ⟨v2, rfl, ho, hb⟩; refine ⟨_, rfl, ?_⟩; have HO2 := Aside0.mk ho; have HB2 := Aside0.mk (below_step HB1.out hb); have n0_ := Aside0.mk (Kd.R_below HO1.out hb); clear HO1; have HO1 := n0_; clear n0_ ho hb))
   go_ret2
   exact ⟨_, rfl, Kd.R_nil _ _ _ _ _, HB2.out⟩
  | true =>
   simp only [if_true] at h
   replace h := Option.bind_eq_some_iff.mp h
   obtain ⟨⟨q1, q2, q3, q4, q5⟩, H, h⟩ := h
   obtain ⟨rfl, rfl⟩ := Prod.mk.inj (Option.some.inj h)
   clear h
   have H' := Aside0.mk (show chunk_OfL.l0 k a0 a1 a2 t1 t2 ([] : List (S40)) t1 t2 0 0 0 = some (q1, q2, q3, q4, q5) from H)
   clear H
   go_enter Try.func6, Try.ntmps6
   go_wp2_with (first | ((with_reducible refine gate_callee (f := 21) rfl ?_); refine goesL_ (some 27) rfl rfl Try.func21 (by kernel_rfl) rfl #[.int .i64 a0, .int .i64 a1, .slice A3 l3.length c3] rfl (by (try simp only [List.map_toArray, List.map_cons, List.map_nil]); first | done | rfl | (simp only [List.length_drop, List.length_take]; rfl)) ?_; (with_reducible refine (chunk_table.calls k a0 a1 _ _ l3 t1 true _ ?side1 ?side2 A1.out).mono ?_); (case side1 => exact HR3.out); (case side2 => exact HC3.out); rintro e w1 ⟨v1, rfl, ho, hb⟩; refine ⟨_, rfl, ?_⟩; have HO1 := Aside0.mk ho; have HB1 := Aside0.mk hb; clear ho hb) | ((with_reducible refine gate_callee (f := 21) rfl ?_); refine goesL_ (some 34) rfl rfl Try.func21 (by kernel_rfl) rfl #[.int .i64 a0, .int .i64 a2, .slice A4 l4.length c4] rfl (by (try simp only [List.map_toArray, List.map_cons, List.map_nil]); first | done | rfl | (simp only [List.length_drop, List.length_take]; rfl)) ?_; (with_reducible refine (chunk_table.calls k a0 a2 _ _ l4 t2 true _ ?side1 ?side2 A2.out).mono ?_); (case side1 => exact Kd.C_below HR4.out HB1.out); (case side2 => exact HC4.out); rintro e w2 ⟨v2, rfl, ho, hb⟩; refine ⟨_, rfl, ?_⟩; have HO2 := Aside0.mk ho; have HB2 := Aside0.mk (below_step HB1.out hb); have n0_ := Aside0.mk (Kd.R_below HO1.out hb); clear HO1; have HO1 := n0_; clear n0_ ho hb; obtain ⟨Ao1, co1, eo1⟩ := Kd.R_slice HO1.out; subst eo1; obtain ⟨Ao2, co2, eo2⟩ := Kd.R_slice HO2.out; subst eo2) | ((with_reducible refine gate_dst (N := 46) rfl ?_); refine box_event ?hg (N := 46) ?hd (cs := #[.slice Ao1 t1.length co1, .slice Ao2 t2.length co2, .int .i64 0, .int .i64 0, .int .i64 0]) (t := 63) ?hr ?_; (case hd => rfl); (case hg => rfl); (case hr => first | (go_simp; done) | (go_simp; rfl)); intro g hg W1 hbox hb; have HX := Aside0.mk hbox; have HG := Aside0.mk (Nat.le_of_eq hg.symm); have HBX := Aside0.mk hb; clear hbox hg hb))
   obtain ⟨W0, hW0⟩ : ∃ W0 : World, W0 = w2 := ⟨_, rfl⟩
   have HI5 := Aside0.mk (show IsS63 W0 W1 g t1 t2 0 0 0 from by rw [hW0]; exact ⟨Ao1, co1, Ao2, co2, HX.out, HG.out, (Kd.R_reads' HO1.out).2.2, (Kd.R_reads' HO2.out).2.2⟩)
   have HB := Aside0.mk (show Below W0.heap.size W0 W1 from by rw [hW0]; exact HBX.out)
   have HZ := Aside0.mk (show Below w.heap.size w W0 from by rw [hW0]; exact HB2.out)
   have hf3 : ∀ ad, Ao1 = some ad → 0 < t1.length → ad.block ≠ g := Kd.far_C 0 (Kd.R_reads' HO1.out).2.2 HG.out
   have hf4 : ∀ ad, Ao2 = some ad → 0 < t2.length → ad.block ≠ g := Kd.far_C 0 (Kd.R_reads' HO2.out).2.2 HG.out
   have HR3' := Aside0.mk (Kd.C_below (Kd.R_reads' HO1.out).2.2 HBX.out)
   have HR4' := Aside0.mk (Kd.C_below (Kd.R_reads' HO2.out).2.2 HBX.out)
   clear HR3 HR4 HC3 HC4 HX HG HBX HB1 HB2 HO1 HO2 hW0 A1 A2
   have HR3 := HR3'
   have HR4 := HR4'
   clear HR3' HR4'
   have HK := Aside0.mk (KeepBut.refl W1 g none)
   have HL := Aside0.mk HB.out.size
   have HW0 := Aside0.mk HB.out.size
   go_loopg [17] k (fun kq v17 w' => ∃ (x17_1 : List (S40)) (x6002_1 : Int) (x6003_1 : Int) (x6004_1 : Int), Aside0 (chunk_OfL.l0 kq a0 a1 a2 t1 t2 x17_1 t1 t2 x6002_1 x6003_1 x6004_1 = some (q1, q2, q3, q4, q5)) ∧ Aside0 (kq ≤ k) ∧ Aside0 (Kd.R k40 40 w' W1.heap.size (fun _ => True) v17 x17_1) ∧ Aside0 (IsS63 W0 w' g t1 t2 x6002_1 x6003_1 x6004_1) ∧ Aside0 (KeepBut W1 w' g none) ∧ Aside0 (Below W0.heap.size W0 w'))
   case atStart => exact ⟨(([] : List (S40))), (0), (0), (0), H', ⟨Nat.le_refl _⟩, ⟨by first | exact Kd.R_nil _ _ _ _ _ | exact Kd.N_nil _ _ _ _ _ | exact Kd.V_nil _ _ _ _ _ | exact Kd.Q_nil _ _ _ _ _ | exact Kd.S_nil _ _ _ _ _⟩, ⟨by repeat (first | (with_reducible first | exact HI5.out | apply IsS63.alloc | apply IsS63.drewN | apply IsS63.drew | apply IsS63.set_2 | apply IsS63.set_3 | apply IsS63.set_4) | exact HI5.out)⟩, ⟨by repeat (first | (with_reducible first | exact HK.out | apply KeepBut.set_ | apply keep_drewN | apply keep_drew | apply keep_alloc) | exact HK.out)⟩, ⟨by repeat (first | (with_reducible first | exact HB.out | apply below_alloc | apply pw_below_drewN | apply below_drew1 | refine below_set ?_ (IsS63.ge HI5.out)) | exact HB.out)⟩⟩
   case round =>
    clear H'
    obtain ⟨x17_1, x6002_1, x6003_1, x6004_1, HA, HK1, HO_17, HI5, HK, HB⟩ := hrel
    cases gk with
    | zero => exact absurd HA.out (by simp [chunk_OfL.l0])
    | succ k1 =>
     have H := HA.out
     clear HA
     simp only [chunk_OfL.l0] at H
     have HC7 := Aside0.mk H
     clear H
     go_upto_region 7 with (fail)
     repeat (go_quiet (fail); go_upto_region 7 with (fail))
     go_cut [68] (fun v68 wc => ∃ (kq : Nat) (x68_6 : Bool), v68 = .bool x68_6 ∧ Aside0 (chunk_OfL.j1 kq a0 a1 a2 t1 t2 x17_1 x68_6 t1 t2 x6002_1 x6003_1 x6004_1 = some (q1, q2, q3, q4, q5)) ∧ Aside0 (kq ≤ k1) ∧ Aside0 (Kd.R k40 40 wc W1.heap.size (fun _ => True) u17 x17_1) ∧ Aside0 (IsS63 W0 wc g t1 t2 x6002_1 x6003_1 x6004_1) ∧ Aside0 (KeepBut W1 wc g none) ∧ Aside0 (Below W0.heap.size W0 wc))
     case first =>
      have H := HC7.out
      clear HC7
      by_cases c8 : x6002_1 < a0
      ·rw [if_pos c8] at H
       have c8b0 : decide (x6002_1 < a0) = true := decide_eq_true c8
       clear c8
       (first | rw [c8b0] | (simp only [i64_w, i32_w]; rw [c8b0]) | skip)
       have H' := Aside0.mk H
       clear H
       obtain ⟨ASz9_0, cSz9_0, ASz9_1, cSz9_1, HGz9, hgz9, HSz9_0, HSz9_1⟩ := HI5.out
       have hcz9_0 := cellS63_0 HGz9
       have hcz9_1 := cellS63_1 HGz9
       have hcz9_2 := cellS63_2 HGz9
       have hcz9_3 := cellS63_3 HGz9
       have hcz9_4 := cellS63_4 HGz9
       have hfz9_2 := blk_frozen HGz9 2
       have hfz9_3 := blk_frozen HGz9 3
       have hfz9_4 := blk_frozen HGz9 4
       clear HGz9 hgz9
       go_wp2
       repeat (go_quiet (fail); try go_wp2)
       go_meet
       case rel => exact ⟨_, (true), (by first | rfl | (simp; done) | (simp [*]; done)), H', ⟨by have := HK1.out; first | omega | exact Nat.le_refl _⟩, ⟨by (with_reducible repeat (first | apply Kd.R_alloc | apply Kd.R_drewN | apply Kd.R_drew)); exact HO_17.out⟩, ⟨by repeat (first | (with_reducible first | exact HI5.out | apply IsS63.alloc | apply IsS63.drewN | apply IsS63.drew | apply IsS63.set_2 | apply IsS63.set_3 | apply IsS63.set_4) | exact HI5.out)⟩, ⟨by repeat (first | (with_reducible first | exact HK.out | apply KeepBut.set_ | apply keep_drewN | apply keep_drew | apply keep_alloc) | exact HK.out)⟩, ⟨by repeat (first | (with_reducible first | exact HB.out | apply below_alloc | apply pw_below_drewN | apply below_drew1 | refine below_set ?_ (IsS63.ge HI5.out)) | exact HB.out)⟩⟩
      ·rw [if_neg c8] at H
       have c8b0 : decide (x6002_1 < a0) = false := decide_eq_false c8
       clear c8
       (first | rw [c8b0] | (simp only [i64_w, i32_w]; rw [c8b0]) | skip)
       by_cases c10 : x6003_1 < a1
       ·rw [if_pos c10] at H
        have c10b0 : decide (x6003_1 < a1) = true := decide_eq_true c10
        clear c10
        have H' := Aside0.mk H
        clear H
        obtain ⟨ASz11_0, cSz11_0, ASz11_1, cSz11_1, HGz11, hgz11, HSz11_0, HSz11_1⟩ := HI5.out
        have hcz11_0 := cellS63_0 HGz11
        have hcz11_1 := cellS63_1 HGz11
        have hcz11_2 := cellS63_2 HGz11
        have hcz11_3 := cellS63_3 HGz11
        have hcz11_4 := cellS63_4 HGz11
        have hfz11_2 := blk_frozen HGz11 2
        have hfz11_3 := blk_frozen HGz11 3
        have hfz11_4 := blk_frozen HGz11 4
        clear HGz11 hgz11
        go_wp2
        repeat (go_quiet (fail); try go_wp2)
        go_meet
        case rel => exact ⟨_, (true), (by first | rfl | (simp; done) | (simp [*]; done)), H', ⟨by have := HK1.out; first | omega | exact Nat.le_refl _⟩, ⟨by (with_reducible repeat (first | apply Kd.R_alloc | apply Kd.R_drewN | apply Kd.R_drew)); exact HO_17.out⟩, ⟨by repeat (first | (with_reducible first | exact HI5.out | apply IsS63.alloc | apply IsS63.drewN | apply IsS63.drew | apply IsS63.set_2 | apply IsS63.set_3 | apply IsS63.set_4) | exact HI5.out)⟩, ⟨by repeat (first | (with_reducible first | exact HK.out | apply KeepBut.set_ | apply keep_drewN | apply keep_drew | apply keep_alloc) | exact HK.out)⟩, ⟨by repeat (first | (with_reducible first | exact HB.out | apply below_alloc | apply pw_below_drewN | apply below_drew1 | refine below_set ?_ (IsS63.ge HI5.out)) | exact HB.out)⟩⟩
       ·rw [if_neg c10] at H
        have c10b0 : decide (x6003_1 < a1) = false := decide_eq_false c10
        clear c10
        have H' := Aside0.mk H
        clear H
        obtain ⟨ASz12_0, cSz12_0, ASz12_1, cSz12_1, HGz12, hgz12, HSz12_0, HSz12_1⟩ := HI5.out
        have hcz12_0 := cellS63_0 HGz12
        have hcz12_1 := cellS63_1 HGz12
        have hcz12_2 := cellS63_2 HGz12
        have hcz12_3 := cellS63_3 HGz12
        have hcz12_4 := cellS63_4 HGz12
        have hfz12_2 := blk_frozen HGz12 2
        have hfz12_3 := blk_frozen HGz12 3
        have hfz12_4 := blk_frozen HGz12 4
        clear HGz12 hgz12
        go_wp2
        repeat (go_quiet (fail); try go_wp2)
        go_meet
        case rel => exact ⟨_, (decide (x6004_1 < a2)), (by first | rfl | (simp; done) | (simp [*]; done)), H', ⟨by have := HK1.out; first | omega | exact Nat.le_refl _⟩, ⟨by (with_reducible repeat (first | apply Kd.R_alloc | apply Kd.R_drewN | apply Kd.R_drew)); exact HO_17.out⟩, ⟨by repeat (first | (with_reducible first | exact HI5.out | apply IsS63.alloc | apply IsS63.drewN | apply IsS63.drew | apply IsS63.set_2 | apply IsS63.set_3 | apply IsS63.set_4) | exact HI5.out)⟩, ⟨by repeat (first | (with_reducible first | exact HK.out | apply KeepBut.set_ | apply keep_drewN | apply keep_drew | apply keep_alloc) | exact HK.out)⟩, ⟨by repeat (first | (with_reducible first | exact HB.out | apply below_alloc | apply pw_below_drewN | apply below_drew1 | refine below_set ?_ (IsS63.ge HI5.out)) | exact HB.out)⟩⟩
     case rest =>
      clear HC7
      obtain ⟨kq, x68_6, rfl, HA, HJ6, HO_17, HI5, HK, HB⟩ := hcut
      cases kq with
      | zero => exact absurd HA.out (by simp [chunk_OfL.j1])
      | succ kj6 =>
       have H := HA.out
       clear HA
       simp only [chunk_OfL.j1] at H
       by_cases c13 : x68_6 = true
       ·subst c13
        have H1 : ((chunk_sweep_stable.f kj6 t1 t2 x6002_1 x6003_1 x6004_1).bind fun bt124 => (if bt124.1 = 0 then ((chunk_sweep_next.f kj6 t1 t2 bt124.2.1 bt124.2.2.1 bt124.2.2.2).bind fun bt128 => (if bt128.1 < a0 then (if 0 ≤ bt128.1 then (if bt128.1 < (t1.length : Int) then (if bt128.1 < (t2.length : Int) then (if x17_1.length < 2513169434916 then (chunk_OfL.l0 kj6 a0 a1 a2 t1 t2 (x17_1 ++ [(⟨decide (bt124.1 > 0), (⟨bt128.2.1, bt128.1⟩ : S38), (⟨bt128.2.2.1, rd t1 bt128.1⟩ : S38), (⟨bt128.2.2.2, rd t2 bt128.1⟩ : S38)⟩ : S40)]) t1 t2 bt128.1 (rd t1 bt128.1) (rd t2 bt128.1)) else (none)) else (none)) else (none)) else (none)) else (if x17_1.length < 2513169434916 then (chunk_OfL.l0 kj6 a0 a1 a2 t1 t2 (x17_1 ++ [(⟨decide (bt124.1 > 0), (⟨bt128.2.1, a0⟩ : S38), (⟨bt128.2.2.1, a1⟩ : S38), (⟨bt128.2.2.2, a2⟩ : S38)⟩ : S40)]) t1 t2 a0 a1 a2) else (none)))) else (if x17_1.length < 2513169434916 then (chunk_OfL.l0 kj6 a0 a1 a2 t1 t2 (x17_1 ++ [(⟨decide (bt124.1 > 0), (⟨bt124.2.1, wrap64 (bt124.2.1 + bt124.1)⟩ : S38), (⟨bt124.2.2.1, wrap64 (bt124.2.2.1 + bt124.1)⟩ : S38), (⟨bt124.2.2.2, wrap64 (bt124.2.2.2 + bt124.1)⟩ : S38)⟩ : S40)]) t1 t2 (wrap64 (bt124.2.1 + bt124.1)) (wrap64 (bt124.2.2.1 + bt124.1)) (wrap64 (bt124.2.2.2 + bt124.1))) else (none)))) = some (q1, q2, q3, q4, q5) := by rw [if_pos rfl] at H; exact H
        clear H
        have H := H1
        clear H1
        replace H := Option.bind_eq_some_iff.mp H
        obtain ⟨⟨t124, t125, t126, t127⟩, A140, H⟩ := H
        replace H : (if t124 = 0 then ((chunk_sweep_next.f kj6 t1 t2 t125 t126 t127).bind fun bt128 => (if bt128.1 < a0 then (if 0 ≤ bt128.1 then (if bt128.1 < (t1.length : Int) then (if bt128.1 < (t2.length : Int) then (if x17_1.length < 2513169434916 then (chunk_OfL.l0 kj6 a0 a1 a2 t1 t2 (x17_1 ++ [(⟨decide (t124 > 0), (⟨bt128.2.1, bt128.1⟩ : S38), (⟨bt128.2.2.1, rd t1 bt128.1⟩ : S38), (⟨bt128.2.2.2, rd t2 bt128.1⟩ : S38)⟩ : S40)]) t1 t2 bt128.1 (rd t1 bt128.1) (rd t2 bt128.1)) else (none)) else (none)) else (none)) else (none)) else (if x17_1.length < 2513169434916 then (chunk_OfL.l0 kj6 a0 a1 a2 t1 t2 (x17_1 ++ [(⟨decide (t124 > 0), (⟨bt128.2.1, a0⟩ : S38), (⟨bt128.2.2.1, a1⟩ : S38), (⟨bt128.2.2.2, a2⟩ : S38)⟩ : S40)]) t1 t2 a0 a1 a2) else (none)))) else (if x17_1.length < 2513169434916 then (chunk_OfL.l0 kj6 a0 a1 a2 t1 t2 (x17_1 ++ [(⟨decide (t124 > 0), (⟨t125, wrap64 (t125 + t124)⟩ : S38), (⟨t126, wrap64 (t126 + t124)⟩ : S38), (⟨t127, wrap64 (t127 + t124)⟩ : S38)⟩ : S40)]) t1 t2 (wrap64 (t125 + t124)) (wrap64 (t126 + t124)) (wrap64 (t127 + t124))) else (none))) = some (q1, q2, q3, q4, q5) := H
        have A14 := Aside0.mk A140
        clear A140
        by_cases c15 : t124 = 0
        ·rw [if_pos c15] at H
         have c15b0 : (t124 == 0) = true := beq_iff_eq.mpr c15
         have c15b1 : (t124 != 0) = false := bne_eq_false_iff_eq.mpr c15
         clear c15
         replace H := Option.bind_eq_some_iff.mp H
         obtain ⟨⟨t128, t129, t130, t131⟩, A160, H⟩ := H
         replace H : (if t128 < a0 then (if 0 ≤ t128 then (if t128 < (t1.length : Int) then (if t128 < (t2.length : Int) then (if x17_1.length < 2513169434916 then (chunk_OfL.l0 kj6 a0 a1 a2 t1 t2 (x17_1 ++ [(⟨decide (t124 > 0), (⟨t129, t128⟩ : S38), (⟨t130, rd t1 t128⟩ : S38), (⟨t131, rd t2 t128⟩ : S38)⟩ : S40)]) t1 t2 t128 (rd t1 t128) (rd t2 t128)) else (none)) else (none)) else (none)) else (none)) else (if x17_1.length < 2513169434916 then (chunk_OfL.l0 kj6 a0 a1 a2 t1 t2 (x17_1 ++ [(⟨decide (t124 > 0), (⟨t129, a0⟩ : S38), (⟨t130, a1⟩ : S38), (⟨t131, a2⟩ : S38)⟩ : S40)]) t1 t2 a0 a1 a2) else (none))) = some (q1, q2, q3, q4, q5) := H
         have A16 := Aside0.mk A160
         clear A160
         by_cases c17 : t128 < a0
         ·rw [if_pos c17] at H
          have c17b0 : decide (t128 < a0) = true := decide_eq_true c17
          clear c17
          by_cases c18 : 0 ≤ t128
          ·rw [if_pos c18] at H
           have c18b0 : decide (0 ≤ t128) = true := decide_eq_true c18
           clear c18
           by_cases c19 : t128 < (t1.length : Int)
           ·rw [if_pos c19] at H
            have c19b0 : decide (t128 < (t1.length : Int)) = true := decide_eq_true c19
            clear c19
            by_cases c20 : t128 < (t2.length : Int)
            ·rw [if_pos c20] at H
             have c20b0 : decide (t128 < (t2.length : Int)) = true := decide_eq_true c20
             clear c20
             by_cases c21 : x17_1.length < 2513169434916
             ·rw [if_pos c21] at H
              have LMc21 := Aside0.mk c21
              clear c21
              obtain ⟨y134, hy134⟩ : ∃ y_ : List (S40), y_ = (x17_1 ++ [(⟨decide (t124 > 0), (⟨t129, t128⟩ : S38), (⟨t130, rd t1 t128⟩ : S38), (⟨t131, rd t2 t128⟩ : S38)⟩ : S40)]) := ⟨_, rfl⟩
              replace H : (chunk_OfL.l0 kj6 a0 a1 a2 t1 t2 y134 t1 t2 t128 (rd t1 t128) (rd t2 t128)) = some (q1, q2, q3, q4, q5) := by first | (rw [hy134]; with_reducible exact H) | (have H2_ := (Option.bind_some _ _).symm.trans H; rw [hy134]; with_reducible exact H2_) | (have H2_ := (Option.bind_some _ _).symm.trans H; with_reducible exact H2_) | with_reducible exact H | (rw [hy134]; exact H) | exact H
              have Ny134 := Aside0.mk hy134
              clear hy134
              have H' := Aside0.mk H
              clear H
              go_wp2_with (first | (go_at_call 22; (with_reducible refine (chunk_sweep_stable.calls kj6 g t1 t2 x6002_1 x6003_1 x6004_1 t124 t125 t126 t127 W0 _ ?side1 ?side2 A14.out).mono ?_); (case side1 => repeat (first | (with_reducible first | exact HI5.out | apply IsS63.alloc | apply IsS63.drewN | apply IsS63.drew | apply IsS63.set_2 | apply IsS63.set_3 | apply IsS63.set_4) | exact HI5.out)); (case side2 => repeat (first | (with_reducible first | exact HB.out | apply below_alloc | apply pw_below_drewN | apply below_drew1 | refine below_set ?_ (IsS63.ge HI5.out)) | exact HB.out)); rintro e w22 ⟨rfl, hi, hb, hk⟩; have n0_ := Aside0.mk (Kd.R_mono (Kd.R_keep (IsS63.apart (show IsS63 W0 _ g t1 t2 x6002_1 x6003_1 x6004_1 from by repeat (first | (with_reducible first | exact HI5.out | apply IsS63.alloc | apply IsS63.drewN | apply IsS63.drew | apply IsS63.set_2 | apply IsS63.set_3 | apply IsS63.set_4) | exact HI5.out)) (by (with_reducible repeat (first | apply Kd.R_alloc | apply Kd.R_drewN | apply Kd.R_drew)); exact HO_17.out) (by decide)) hk (fun _ h => h.2)) (fun _ h => h.1)); have n1_ := Aside0.mk (KeepBut.trans (by repeat (first | (with_reducible first | exact HK.out | apply KeepBut.set_ | apply keep_drewN | apply keep_drew | apply keep_alloc) | exact HK.out)) hk (.inl rfl)); have n2_ := Aside0.mk (hb); have n3_ := Aside0.mk (hi); clear HO_17; clear HK; clear HB; clear HI5; have HO_17 := n0_; have HK := n1_; have HB := n2_; have HI5 := n3_; clear n0_ n1_ n2_ n3_; (try clear hb); (try clear hb2); (try clear hk); (try clear hi); obtain ⟨ASz23_0, cSz23_0, ASz23_1, cSz23_1, HGz23, hgz23, HSz23_0, HSz23_1⟩ := HI5.out; have hcz23_0 := cellS63_0 HGz23; have hcz23_1 := cellS63_1 HGz23; have hcz23_2 := cellS63_2 HGz23; have hcz23_3 := cellS63_3 HGz23; have hcz23_4 := cellS63_4 HGz23; have hfz23_2 := blk_frozen HGz23 2; have hfz23_3 := blk_frozen HGz23 3; have hfz23_4 := blk_frozen HGz23 4; clear HGz23 hgz23) | (go_at_call 23; (with_reducible refine (chunk_sweep_next.calls kj6 g t1 t2 t125 t126 t127 t128 t129 t130 t131 W0 _ ?side1 ?side2 A16.out).mono ?_); (case side1 => repeat (first | (with_reducible first | exact HI5.out | apply IsS63.alloc | apply IsS63.drewN | apply IsS63.drew | apply IsS63.set_2 | apply IsS63.set_3 | apply IsS63.set_4) | exact HI5.out)); (case side2 => repeat (first | (with_reducible first | exact HB.out | apply below_alloc | apply pw_below_drewN | apply below_drew1 | refine below_set ?_ (IsS63.ge HI5.out)) | exact HB.out)); rintro e w24 ⟨rfl, hi, hb, hk⟩; have n0_ := Aside0.mk (Kd.R_mono (Kd.R_keep (IsS63.apart (show IsS63 W0 _ g t1 t2 t125 t126 t127 from by repeat (first | (with_reducible first | exact HI5.out | apply IsS63.alloc | apply IsS63.drewN | apply IsS63.drew | apply IsS63.set_2 | apply IsS63.set_3 | apply IsS63.set_4) | exact HI5.out)) (by (with_reducible repeat (first | apply Kd.R_alloc | apply Kd.R_drewN | apply Kd.R_drew)); exact HO_17.out) (by decide)) hk (fun _ h => h.2)) (fun _ h => h.1)); have n1_ := Aside0.mk (KeepBut.trans (by repeat (first | (with_reducible first | exact HK.out | apply KeepBut.set_ | apply keep_drewN | apply keep_drew | apply keep_alloc) | exact HK.out)) hk (.inl rfl)); have n2_ := Aside0.mk (hb); have n3_ := Aside0.mk (hi); clear HO_17; clear HK; clear HB; clear HI5; have HO_17 := n0_; have HK := n1_; have HB := n2_; have HI5 := n3_; clear n0_ n1_ n2_ n3_; (try clear hb); (try clear hb2); (try clear hk); (try clear hi); have p132 : 0 ≤ (t128 : Int) := of_decide_eq_true (by first | (with_reducible assumption) | assumption); have q132 : t128 < (t1.length : Int) := of_decide_eq_true (by first | (with_reducible assumption) | assumption); obtain ⟨ad132, e132, hx132_0⟩ := Kd.at_int HR3.out t128 p132 q132; cases e132; replace hx132_0 := keep_cell HK.out hx132_0 (by first | (rw [add_block]; exact hf3 _ rfl (by omega)) | exact hf3 _ rfl (by omega) | exact hf3 ad132 rfl (by omega)); replace p132 := eq_true p132; replace q132 := eq_true q132; have p133 : 0 ≤ (t128 : Int) := of_decide_eq_true (by first | (with_reducible assumption) | assumption); have q133 : t128 < (t2.length : Int) := of_decide_eq_true (by first | (with_reducible assumption) | assumption); obtain ⟨ad133, e133, hx133_0⟩ := Kd.at_int HR4.out t128 p133 q133; cases e133; replace hx133_0 := keep_cell HK.out hx133_0 (by first | (rw [add_block]; exact hf4 _ rfl (by omega)) | exact hf4 _ rfl (by omega) | exact hf4 ad133 rfl (by omega)); replace p133 := eq_true p133; replace q133 := eq_true q133; obtain ⟨ASz25_0, cSz25_0, ASz25_1, cSz25_1, HGz25, hgz25, HSz25_0, HSz25_1⟩ := HI5.out; have hcz25_0 := cellS63_0 HGz25; have hcz25_1 := cellS63_1 HGz25; have hcz25_2 := cellS63_2 HGz25; have hcz25_3 := cellS63_3 HGz25; have hcz25_4 := cellS63_4 HGz25; have hfz25_2 := blk_frozen HGz25 2; have hfz25_3 := blk_frozen HGz25 3; have hfz25_4 := blk_frozen HGz25 4; clear HGz25 hgz25))
              repeat (go_quiet (fail); try go_wp2_with (first | (go_at_call 22; (with_reducible refine (chunk_sweep_stable.calls kj6 g t1 t2 x6002_1 x6003_1 x6004_1 t124 t125 t126 t127 W0 _ ?side1 ?side2 A14.out).mono ?_); (case side1 => repeat (first | (with_reducible first | exact HI5.out | apply IsS63.alloc | apply IsS63.drewN | apply IsS63.drew | apply IsS63.set_2 | apply IsS63.set_3 | apply IsS63.set_4) | exact HI5.out)); (case side2 => repeat (first | (with_reducible first | exact HB.out | apply below_alloc | apply pw_below_drewN | apply below_drew1 | refine below_set ?_ (IsS63.ge HI5.out)) | exact HB.out)); rintro e w22 ⟨rfl, hi, hb, hk⟩; have n0_ := Aside0.mk (Kd.R_mono (Kd.R_keep (IsS63.apart (show IsS63 W0 _ g t1 t2 x6002_1 x6003_1 x6004_1 from by repeat (first | (with_reducible first | exact HI5.out | apply IsS63.alloc | apply IsS63.drewN | apply IsS63.drew | apply IsS63.set_2 | apply IsS63.set_3 | apply IsS63.set_4) | exact HI5.out)) (by (with_reducible repeat (first | apply Kd.R_alloc | apply Kd.R_drewN | apply Kd.R_drew)); exact HO_17.out) (by decide)) hk (fun _ h => h.2)) (fun _ h => h.1)); have n1_ := Aside0.mk (KeepBut.trans (by repeat (first | (with_reducible first | exact HK.out | apply KeepBut.set_ | apply keep_drewN | apply keep_drew | apply keep_alloc) | exact HK.out)) hk (.inl rfl)); have n2_ := Aside0.mk (hb); have n3_ := Aside0.mk (hi); clear HO_17; clear HK; clear HB; clear HI5; have HO_17 := n0_; have HK := n1_; have HB := n2_; have HI5 := n3_; clear n0_ n1_ n2_ n3_; (try clear hb); (try clear hb2); (try clear hk); (try clear hi); obtain ⟨ASz23_0, cSz23_0, ASz23_1, cSz23_1, HGz23, hgz23, HSz23_0, HSz23_1⟩ := HI5.out; have hcz23_0 := cellS63_0 HGz23; have hcz23_1 := cellS63_1 HGz23; have hcz23_2 := cellS63_2 HGz23; have hcz23_3 := cellS63_3 HGz23; have hcz23_4 := cellS63_4 HGz23; have hfz23_2 := blk_frozen HGz23 2; have hfz23_3 := blk_frozen HGz23 3; have hfz23_4 := blk_frozen HGz23 4; clear HGz23 hgz23) | (go_at_call 23; (with_reducible refine (chunk_sweep_next.calls kj6 g t1 t2 t125 t126 t127 t128 t129 t130 t131 W0 _ ?side1 ?side2 A16.out).mono ?_); (case side1 => repeat (first | (with_reducible first | exact HI5.out | apply IsS63.alloc | apply IsS63.drewN | apply IsS63.drew | apply IsS63.set_2 | apply IsS63.set_3 | apply IsS63.set_4) | exact HI5.out)); (case side2 => repeat (first | (with_reducible first | exact HB.out | apply below_alloc | apply pw_below_drewN | apply below_drew1 | refine below_set ?_ (IsS63.ge HI5.out)) | exact HB.out)); rintro e w24 ⟨rfl, hi, hb, hk⟩; have n0_ := Aside0.mk (Kd.R_mono (Kd.R_keep (IsS63.apart (show IsS63 W0 _ g t1 t2 t125 t126 t127 from by repeat (first | (with_reducible first | exact HI5.out | apply IsS63.alloc | apply IsS63.drewN | apply IsS63.drew | apply IsS63.set_2 | apply IsS63.set_3 | apply IsS63.set_4) | exact HI5.out)) (by (with_reducible repeat (first | apply Kd.R_alloc | apply Kd.R_drewN | apply Kd.R_drew)); exact HO_17.out) (by decide)) hk (fun _ h => h.2)) (fun _ h => h.1)); have n1_ := Aside0.mk (KeepBut.trans (by repeat (first | (with_reducible first | exact HK.out | apply KeepBut.set_ | apply keep_drewN | apply keep_drew | apply keep_alloc) | exact HK.out)) hk (.inl rfl)); have n2_ := Aside0.mk (hb); have n3_ := Aside0.mk (hi); clear HO_17; clear HK; clear HB; clear HI5; have HO_17 := n0_; have HK := n1_; have HB := n2_; have HI5 := n3_; clear n0_ n1_ n2_ n3_; (try clear hb); (try clear hb2); (try clear hk); (try clear hi); have p132 : 0 ≤ (t128 : Int) := of_decide_eq_true (by first | (with_reducible assumption) | assumption); have q132 : t128 < (t1.length : Int) := of_decide_eq_true (by first | (with_reducible assumption) | assumption); obtain ⟨ad132, e132, hx132_0⟩ := Kd.at_int HR3.out t128 p132 q132; cases e132; replace hx132_0 := keep_cell HK.out hx132_0 (by first | (rw [add_block]; exact hf3 _ rfl (by omega)) | exact hf3 _ rfl (by omega) | exact hf3 ad132 rfl (by omega)); replace p132 := eq_true p132; replace q132 := eq_true q132; have p133 : 0 ≤ (t128 : Int) := of_decide_eq_true (by first | (with_reducible assumption) | assumption); have q133 : t128 < (t2.length : Int) := of_decide_eq_true (by first | (with_reducible assumption) | assumption); obtain ⟨ad133, e133, hx133_0⟩ := Kd.at_int HR4.out t128 p133 q133; cases e133; replace hx133_0 := keep_cell HK.out hx133_0 (by first | (rw [add_block]; exact hf4 _ rfl (by omega)) | exact hf4 _ rfl (by omega) | exact hf4 ad133 rfl (by omega)); replace p133 := eq_true p133; replace q133 := eq_true q133; obtain ⟨ASz25_0, cSz25_0, ASz25_1, cSz25_1, HGz25, hgz25, HSz25_0, HSz25_1⟩ := HI5.out; have hcz25_0 := cellS63_0 HGz25; have hcz25_1 := cellS63_1 HGz25; have hcz25_2 := cellS63_2 HGz25; have hcz25_3 := cellS63_3 HGz25; have hcz25_4 := cellS63_4 HGz25; have hfz25_2 := blk_frozen HGz25 2; have hfz25_3 := blk_frozen HGz25 3; have hfz25_4 := blk_frozen HGz25 4; clear HGz25 hgz25)))
              refine start_ (n := 25) (S := fun w' => w'.cell? ⟨g, 2, none⟩ = some (.int .i64 t129) ∧ w'.cell? ⟨g, 3, none⟩ = some (.int .i64 t130) ∧ w'.cell? ⟨g, 4, none⟩ = some (.int .i64 t131)) (ds := []) #[false, false, false, false, false, false, false, false, false, false, false, false, false, false, false, false, false, false, false, false, false, false, false, false, false] (by kernel_rfl) rfl rfl ⟨hcz25_2, hcz25_3, hcz25_4⟩ (fun hHeld => ?_)
              refine with_tabW chunk_Of.tab15 chunk_Of.bits15 (fun HT_ HW_ => ?_)
              generalize hW2 : World.drew _ = W2 at hHeld ⊢
              have n0_ : Aside0 (Kd.R k40 40 W2 W1.heap.size (fun _ => True) u17 x17_1) := ⟨by rw [← hW2]; exact HO_17.out⟩
              have n1_ : Aside0 (IsS63 W0 W2 g t1 t2 t129 t130 t131) := ⟨by rw [← hW2]; exact HI5.out⟩
              have n2_ : Aside0 (KeepBut W1 W2 g none) := ⟨by rw [← hW2]; exact HK.out⟩
              have n3_ : Aside0 (Below W0.heap.size W0 W2) := ⟨by rw [← hW2]; first | exact below_drew1 HB.out | exact below_drew1 (pw_below_drewN HB.out _)⟩
              clear HO_17 HI5 HK HB hW2
              have HO_17 := n0_
              have HI5 := n1_
              have HK := n2_
              have HB := n3_
              clear n0_ n1_ n2_ n3_
              refine pure_ (i := 0) (N := some 108) (v := ?_) (a' := ?_) #[true, false, false, false, false, false, false, false, false, false, false, false, false, false, false, false, false, false, false, false, false, false, false, false, false] rfl rfl (any_of HT_.out (by kernel_rfl)) (fun _ _ _ h => h) (Or.inl ⟨by rfl, ?_⟩) ?_ ?_
              rotate_left
              ·intro w'
               go_simp
               with_reducible rfl
              rotate_left
              ·simp only [Act.put, List.setIfInBounds_toArray, List.set_cons_zero, List.set_cons_succ, i64_w, i32_w]
               rfl
              refine pure_ (i := 1) (N := some 109) (v := ?_) (a' := ?_) #[true, true, false, false, false, false, false, false, false, false, false, false, false, false, false, false, false, false, false, false, false, false, false, false, false] rfl rfl (any_of HT_.out (by kernel_rfl)) (fun _ _ _ h => h) (Or.inl ⟨by rfl, ?_⟩) ?_ ?_
              rotate_left
              ·intro w'
               go_simp
               with_reducible rfl
              rotate_left
              ·simp only [Act.put, List.setIfInBounds_toArray, List.set_cons_zero, List.set_cons_succ, i64_w, i32_w]
               rfl
              refine pure_ (i := 2) (N := some 110) (v := ?_) (a' := ?_) #[true, true, true, false, false, false, false, false, false, false, false, false, false, false, false, false, false, false, false, false, false, false, false, false, false] rfl rfl (any_of HT_.out (by kernel_rfl)) (fun _ _ _ h => h) (Or.inl ⟨by rfl, ?_⟩) ?_ ?_
              rotate_left
              ·intro w'
               go_simp
               with_reducible rfl
              rotate_left
              ·simp only [Act.put, List.setIfInBounds_toArray, List.set_cons_zero, List.set_cons_succ, i64_w, i32_w]
               rfl
              refine pure_ (i := 3) (N := some 111) (v := ?_) (a' := ?_) #[true, true, true, true, false, false, false, false, false, false, false, false, false, false, false, false, false, false, false, false, false, false, false, false, false] rfl rfl (any_of HT_.out (by kernel_rfl)) (fun _ _ _ h => h) (Or.inl ⟨by rfl, ?_⟩) ?_ ?_
              rotate_left
              ·intro w'
               go_simp
               with_reducible rfl
              rotate_left
              ·simp only [Act.put, List.setIfInBounds_toArray, List.set_cons_zero, List.set_cons_succ, i64_w, i32_w]
               rfl
              refine pure_ (i := 4) (N := some 112) (v := ?_) (a' := ?_) #[true, true, true, true, true, false, false, false, false, false, false, false, false, false, false, false, false, false, false, false, false, false, false, false, false] rfl rfl (any_of HT_.out (by kernel_rfl)) (fun _ _ _ h => h) (Or.inl ⟨by rfl, ?_⟩) ?_ ?_
              rotate_left
              ·intro w'
               go_simp
               with_reducible rfl
              rotate_left
              ·simp only [Act.put, List.setIfInBounds_toArray, List.set_cons_zero, List.set_cons_succ, i64_w, i32_w]
               rfl
              refine pure_ (i := 5) (N := some 113) (v := ?_) (a' := ?_) #[true, true, true, true, true, true, false, false, false, false, false, false, false, false, false, false, false, false, false, false, false, false, false, false, false] rfl rfl (any_of HT_.out (by kernel_rfl)) (fun _ _ _ h => h) (Or.inl ⟨by rfl, ?_⟩) ?_ ?_
              rotate_left
              ·intro w'
               go_simp
               with_reducible rfl
              rotate_left
              ·simp only [Act.put, List.setIfInBounds_toArray, List.set_cons_zero, List.set_cons_succ, i64_w, i32_w]
               rfl
              refine pure_ (i := 7) (N := some 115) (v := ?_) (a' := ?_) #[true, true, true, true, true, true, false, true, false, false, false, false, false, false, false, false, false, false, false, false, false, false, false, false, false] rfl rfl (any_of HT_.out (by kernel_rfl)) (fun _ _ _ h => h) (Or.inl ⟨by rfl, ?_⟩) ?_ ?_
              rotate_left
              ·intro w'
               go_simp
               with_reducible rfl
              rotate_left
              ·simp only [Act.put, List.setIfInBounds_toArray, List.set_cons_zero, List.set_cons_succ, i64_w, i32_w]
               rfl
              refine pure_ (i := 9) (N := some 117) (v := ?_) (a' := ?_) #[true, true, true, true, true, true, false, true, false, true, false, false, false, false, false, false, false, false, false, false, false, false, false, false, false] rfl rfl (any_of HT_.out (by kernel_rfl)) (fun _ _ _ h => h) (Or.inl ⟨by rfl, ?_⟩) ?_ ?_
              rotate_left
              ·intro w'
               go_simp
               with_reducible rfl
              rotate_left
              ·simp only [Act.put, List.setIfInBounds_toArray, List.set_cons_zero, List.set_cons_succ, i64_w, i32_w]
               rfl
              refine pure_ (i := 10) (N := some 118) (v := ?_) (a' := ?_) #[true, true, true, true, true, true, false, true, false, true, true, false, false, false, false, false, false, false, false, false, false, false, false, false, false] rfl rfl (any_of HT_.out (by kernel_rfl)) (fun _ _ _ h => h) (Or.inl ⟨by rfl, ?_⟩) ?_ ?_
              rotate_left
              ·intro w'
               go_simp
               with_reducible rfl
              rotate_left
              ·simp only [Act.put, List.setIfInBounds_toArray, List.set_cons_zero, List.set_cons_succ, i64_w, i32_w]
               rfl
              refine pure_ (i := 11) (N := some 119) (v := ?_) (a' := ?_) #[true, true, true, true, true, true, false, true, false, true, true, true, false, false, false, false, false, false, false, false, false, false, false, false, false] rfl rfl (any_of HT_.out (by kernel_rfl)) (fun _ _ _ h => h) (Or.inl ⟨by rfl, ?_⟩) ?_ ?_
              rotate_left
              ·intro w'
               go_simp
               with_reducible rfl
              rotate_left
              ·simp only [Act.put, List.setIfInBounds_toArray, List.set_cons_zero, List.set_cons_succ, i64_w, i32_w]
               rfl
              refine pure_ (i := 13) (N := some 121) (v := ?_) (a' := ?_) #[true, true, true, true, true, true, false, true, false, true, true, true, false, true, false, false, false, false, false, false, false, false, false, false, false] rfl rfl (any_of HT_.out (by kernel_rfl)) (fun _ _ _ h => h) (Or.inl ⟨by rfl, ?_⟩) ?_ ?_
              rotate_left
              ·intro w'
               go_simp
               with_reducible rfl
              rotate_left
              ·simp only [Act.put, List.setIfInBounds_toArray, List.set_cons_zero, List.set_cons_succ, i64_w, i32_w]
               rfl
              refine pure_ (i := 15) (N := some 123) (v := ?_) (a' := ?_) #[true, true, true, true, true, true, false, true, false, true, true, true, false, true, false, true, false, false, false, false, false, false, false, false, false] rfl rfl (any_of HT_.out (by kernel_rfl)) (fun _ _ _ h => h) (Or.inl ⟨by rfl, ?_⟩) ?_ ?_
              rotate_left
              ·intro w'
               go_simp
               with_reducible rfl
              rotate_left
              ·simp only [Act.put, List.setIfInBounds_toArray, List.set_cons_zero, List.set_cons_succ, i64_w, i32_w]
               rfl
              refine pure_ (i := 16) (N := some 124) (v := ?_) (a' := ?_) #[true, true, true, true, true, true, false, true, false, true, true, true, false, true, false, true, true, false, false, false, false, false, false, false, false] rfl rfl (any_of HT_.out (by kernel_rfl)) (fun _ _ _ h => h) (Or.inl ⟨by rfl, ?_⟩) ?_ ?_
              rotate_left
              ·intro w'
               go_simp
               with_reducible rfl
              rotate_left
              ·simp only [Act.put, List.setIfInBounds_toArray, List.set_cons_zero, List.set_cons_succ, i64_w, i32_w]
               rfl
              refine pure_ (i := 17) (N := some 125) (v := ?_) (a' := ?_) #[true, true, true, true, true, true, false, true, false, true, true, true, false, true, false, true, true, true, false, false, false, false, false, false, false] rfl rfl (any_of HT_.out (by kernel_rfl)) (fun _ _ _ h => h) (Or.inl ⟨by rfl, ?_⟩) ?_ ?_
              rotate_left
              ·intro w'
               go_simp
               with_reducible rfl
              rotate_left
              ·simp only [Act.put, List.setIfInBounds_toArray, List.set_cons_zero, List.set_cons_succ, i64_w, i32_w]
               rfl
              refine pure_ (i := 19) (N := some 127) (v := ?_) (a' := ?_) #[true, true, true, true, true, true, false, true, false, true, true, true, false, true, false, true, true, true, false, true, false, false, false, false, false] rfl rfl (any_of HT_.out (by kernel_rfl)) (fun _ _ _ h => h) (Or.inl ⟨by rfl, ?_⟩) ?_ ?_
              rotate_left
              ·intro w'
               go_simp
               with_reducible rfl
              rotate_left
              ·simp only [Act.put, List.setIfInBounds_toArray, List.set_cons_zero, List.set_cons_succ, i64_w, i32_w]
               rfl
              refine take_ (i := 6) (N := some 114) (v := ?_) (a' := ?_) #[true, true, true, true, true, true, true, true, false, true, true, true, false, true, false, true, true, true, false, true, false, false, false, false, false] rfl rfl (take_ofW HT_.out HW_.out (by kernel_rfl)) (fun _ _ _ h => h) (Or.inl ⟨by rfl, ?_⟩) hHeld ?_ ?_
              rotate_left
              ·rintro w' ⟨s0, s1, s2⟩
               go_simp
               with_reducible rfl
              rotate_left
              ·simp only [Act.put, List.setIfInBounds_toArray, List.set_cons_zero, List.set_cons_succ, i64_w, i32_w]
               rfl
              refine take_ (i := 12) (N := some 120) (v := ?_) (a' := ?_) #[true, true, true, true, true, true, true, true, false, true, true, true, true, true, false, true, true, true, false, true, false, false, false, false, false] rfl rfl (take_ofW HT_.out HW_.out (by kernel_rfl)) (fun _ _ _ h => h) (Or.inl ⟨by rfl, ?_⟩) hHeld ?_ ?_
              rotate_left
              ·rintro w' ⟨s0, s1, s2⟩
               go_simp
               with_reducible rfl
              rotate_left
              ·simp only [Act.put, List.setIfInBounds_toArray, List.set_cons_zero, List.set_cons_succ, i64_w, i32_w]
               rfl
              refine take_ (i := 18) (N := some 126) (v := ?_) (a' := ?_) #[true, true, true, true, true, true, true, true, false, true, true, true, true, true, false, true, true, true, true, true, false, false, false, false, false] rfl rfl (take_ofW HT_.out HW_.out (by kernel_rfl)) (fun _ _ _ h => h) (Or.inl ⟨by rfl, ?_⟩) hHeld ?_ ?_
              rotate_left
              ·rintro w' ⟨s0, s1, s2⟩
               go_simp
               with_reducible rfl
              rotate_left
              ·simp only [Act.put, List.setIfInBounds_toArray, List.set_cons_zero, List.set_cons_succ, i64_w, i32_w]
               rfl
              refine pure_ (i := 8) (N := some 116) (v := ?_) (a' := ?_) #[true, true, true, true, true, true, true, true, true, true, true, true, true, true, false, true, true, true, true, true, false, false, false, false, false] rfl rfl (any_of HT_.out (by kernel_rfl)) (fun _ _ _ h => h) (Or.inl ⟨by rfl, ?_⟩) ?_ ?_
              rotate_left
              ·intro w'
               go_simp
               with_reducible rfl
              rotate_left
              ·simp only [Act.put, List.setIfInBounds_toArray, List.set_cons_zero, List.set_cons_succ, i64_w, i32_w]
               rfl
              refine pure_ (i := 14) (N := some 122) (v := ?_) (a' := ?_) #[true, true, true, true, true, true, true, true, true, true, true, true, true, true, true, true, true, true, true, true, false, false, false, false, false] rfl rfl (any_of HT_.out (by kernel_rfl)) (fun _ _ _ h => h) (Or.inl ⟨by rfl, ?_⟩) ?_ ?_
              rotate_left
              ·intro w'
               go_simp
               with_reducible rfl
              rotate_left
              ·simp only [Act.put, List.setIfInBounds_toArray, List.set_cons_zero, List.set_cons_succ, i64_w, i32_w]
               rfl
              refine pure_ (i := 20) (N := some 128) (v := ?_) (a' := ?_) #[true, true, true, true, true, true, true, true, true, true, true, true, true, true, true, true, true, true, true, true, true, false, false, false, false] rfl rfl (any_of HT_.out (by kernel_rfl)) (fun _ _ _ h => h) (Or.inl ⟨by rfl, ?_⟩) ?_ ?_
              rotate_left
              ·intro w'
               go_simp
               with_reducible rfl
              rotate_left
              ·simp only [Act.put, List.setIfInBounds_toArray, List.set_cons_zero, List.set_cons_succ, i64_w, i32_w]
               rfl
              refine pure_ (i := 21) (N := some 129) (v := ?_) (a' := ?_) #[true, true, true, true, true, true, true, true, true, true, true, true, true, true, true, true, true, true, true, true, true, true, false, false, false] rfl rfl (any_of HT_.out (by kernel_rfl)) (fun _ _ _ h => h) (Or.inl ⟨by rfl, ?_⟩) ?_ ?_
              rotate_left
              ·intro w'
               go_simp
               with_reducible rfl
              rotate_left
              ·simp only [Act.put, List.setIfInBounds_toArray, List.set_cons_zero, List.set_cons_succ, i64_w, i32_w]
               rfl
              refine one_ (i := 22) (N := some 130) #[true, true, true, true, true, true, true, true, true, true, true, true, true, true, true, true, true, true, true, true, true, true, true, false, false] rfl rfl (one_of HT_.out (by kernel_rfl)) (by decide) (fun K hK => ?_)
              refine value_ (w1 := ?_) (v := ?_) (by rfl) rfl ?_ ?_
              rotate_left 2
              ·go_simp
               constructor
               ·rfl
               ·rfl
              refine hK.out _ _ ⟨(World.cell?_alloc_lt _ _ _ (World.block_lt_of_cell? _ _ hHeld.1)).trans hHeld.1, (World.cell?_alloc_lt _ _ _ (World.block_lt_of_cell? _ _ hHeld.2.1)).trans hHeld.2.1, (World.cell?_alloc_lt _ _ _ (World.block_lt_of_cell? _ _ hHeld.2.2)).trans hHeld.2.2⟩ (fun hHeld => ?_)
              clear hK K
              refine norm_ (a' := ?_) ?_ ?_
              rotate_left
              ·show Act.put _ (some 130) _ = _
               simp only [Act.put, List.setIfInBounds_toArray, List.set_cons_zero, List.set_cons_succ, i64_w, i32_w]
               rfl
              refine one_ (i := 23) (N := some 131) #[true, true, true, true, true, true, true, true, true, true, true, true, true, true, true, true, true, true, true, true, true, true, true, true, false] rfl rfl (one_of HT_.out (by kernel_rfl)) (by decide) (fun K hK => ?_)
              refine Kd.R_append_step k40 W1.heap.size (by rfl) (.tmp 108) (.tmp 130) 25 40 (.agg #[(.bool false), (.int .i64 0), (.int .i64 0), (.int .i64 0), (.int .i64 0), (.int .i64 0), (.int .i64 0)]) 56 rfl Try.underlying25 info40 rfl (by decide) (by omega) u17 x17_1 (⟨decide (t124 > 0), (⟨t129, t128⟩ : S38), (⟨t130, rd t1 t128⟩ : S38), (⟨t131, rd t2 t128⟩ : S38)⟩ : S40) [.bool (decide (t124 > 0)), .int .i64 t129, .int .i64 t128, .int .i64 t130, .int .i64 (rd t1 t128), .int .i64 t131, .int .i64 (rd t2 t128)] (fun _ => True) (fun _ => False) rfl rfl ?aP (fun _ hk => hk.elim) ?aF ?aO (Below.refl _ _) ?aS ?aL ?_
              (case aP => exact k40_mkM _ _ _ (⟨decide (t124 > 0), (⟨t129, t128⟩ : S38), (⟨t130, rd t1 t128⟩ : S38), (⟨t131, rd t2 t128⟩ : S38)⟩ : S40))
              (case aF => exact (fun _ _ => trivial))
              (case aO => exact (by (with_reducible repeat (first | apply Kd.R_alloc | apply Kd.R_drewN | apply Kd.R_drew)); exact HO_17.out))
              (case aS => exact (keep_size (w := W1) (g := g) (row := none) (by repeat (first | (with_reducible first | exact HK.out | apply KeepBut.set_ | apply keep_drewN | apply keep_drew | apply keep_alloc) | exact HK.out))))
              (case aL => have := LMc21.out; omega)
              intro v135 w26 ho hb hg hat
              rw [← Ny134.out] at ho
              have n0_ := Aside0.mk (IsS63.grown (by repeat (first | (with_reducible first | exact HI5.out | apply IsS63.alloc | apply IsS63.drewN | apply IsS63.drew | apply IsS63.set_2 | apply IsS63.set_3 | apply IsS63.set_4) | exact HI5.out)) hg (IsS63.own_ne HI5.out HO_17.out (by decide)))
              have n1_ := Aside0.mk (below_weaken (by repeat (first | (with_reducible first | exact HB.out | apply below_alloc | apply pw_below_drewN | apply below_drew1 | refine below_set ?_ (IsS63.ge HI5.out)) | exact HB.out)) HL.out hb)
              have n2_ := Aside0.mk (KeepBut.trans (by repeat (first | (with_reducible first | exact HK.out | apply KeepBut.set_ | apply keep_drewN | apply keep_drew | apply keep_alloc) | exact HK.out)) (KeepBut.of_grown hg g) (Kd.R_base2 HO_17.out))
              have n3_ := Aside0.mk (ho)
              clear HI5
              clear HB
              clear HK
              clear HO_17
              have HI5 := n0_
              have HB := n1_
              have HK := n2_
              have HO136 := n3_
              clear n0_ n1_ n2_ n3_
              clear ho hb hg hat
              obtain ⟨ASz27_0, cSz27_0, ASz27_1, cSz27_1, HGz27, hgz27, HSz27_0, HSz27_1⟩ := HI5.out
              have hcz27_0 := cellS63_0 HGz27
              have hcz27_1 := cellS63_1 HGz27
              have hcz27_2 := cellS63_2 HGz27
              have hcz27_3 := cellS63_3 HGz27
              have hcz27_4 := cellS63_4 HGz27
              have hfz27_2 := blk_frozen HGz27 2
              have hfz27_3 := blk_frozen HGz27 3
              have hfz27_4 := blk_frozen HGz27 4
              clear HGz27 hgz27
              refine hK.out _ _ ⟨hcz27_2, hcz27_3, hcz27_4⟩ (fun hHeld => ?_)
              clear hK K
              refine norm_ (a' := ?_) ?_ ?_
              rotate_left
              ·show Act.put _ (some 131) _ = _
               simp only [Act.put, List.setIfInBounds_toArray, List.set_cons_zero, List.set_cons_succ, i64_w, i32_w]
               rfl
              refine pure_ (i := 24) (N := some 17) (v := ?_) (a' := ?_) #[true, true, true, true, true, true, true, true, true, true, true, true, true, true, true, true, true, true, true, true, true, true, true, true, true] rfl rfl (any_of HT_.out (by kernel_rfl)) (fun _ _ _ h => h) (Or.inl ⟨by rfl, ?_⟩) ?_ ?_
              rotate_left
              ·intro w'
               go_simp
               with_reducible rfl
              rotate_left
              ·simp only [Act.put, List.setIfInBounds_toArray, List.set_cons_zero, List.set_cons_succ, i64_w, i32_w]
               rfl
              refine done_ (done_of HT_.out (by kernel_rfl)) ?_
              go_wp2
              repeat (go_quiet (fail); try go_wp2)
              go_roundg kj6
              case measure => have := HK1.out; have := HJ6.out; omega
              case rel => exact ⟨(y134), (t128), (rd t1 t128), (rd t2 t128), H', ⟨by have := HK1.out; have := HJ6.out; omega⟩, ⟨by (with_reducible repeat (first | apply Kd.R_alloc | apply Kd.R_drewN | apply Kd.R_drew)); exact Kd.R_mono (Kd.R_far (p := ⟨g, 4, none⟩) (Kd.R_far (p := ⟨g, 3, none⟩) (Kd.R_far (p := ⟨g, 2, none⟩) (IsS63.apart HI5.out HO136.out (by decide)) (fun _ hk => hk.2) (.int .i64 t128)) (fun _ hk => hk.2) (.int .i64 (rd t1 t128))) (fun _ hk => hk.2) (.int .i64 (rd t2 t128))) (fun _ hk => trivial)⟩, ⟨by repeat (first | (with_reducible first | exact HI5.out | apply IsS63.alloc | apply IsS63.drewN | apply IsS63.drew | apply IsS63.set_2 | apply IsS63.set_3 | apply IsS63.set_4) | exact HI5.out)⟩, ⟨by repeat (first | (with_reducible first | exact HK.out | apply KeepBut.set_ | apply keep_drewN | apply keep_drew | apply keep_alloc) | exact HK.out)⟩, ⟨by repeat (first | (with_reducible first | exact HB.out | apply below_alloc | apply pw_below_drewN | apply below_drew1 | refine below_set ?_ (IsS63.ge HI5.out)) | exact HB.out)⟩⟩
             ·rw [if_neg c21] at H
              exact absurd H (by simp)
            ·rw [if_neg c20] at H
             exact absurd H (by simp)
           ·rw [if_neg c19] at H
            exact absurd H (by simp)
          ·rw [if_neg c18] at H
           exact absurd H (by simp)
         ·rw [if_neg c17] at H
          have c17b0 : decide (t128 < a0) = false := decide_eq_false c17
          clear c17
          by_cases c28 : x17_1.length < 2513169434916
          ·rw [if_pos c28] at H
           have LMc28 := Aside0.mk c28
           clear c28
           obtain ⟨y137, hy137⟩ : ∃ y_ : List (S40), y_ = (x17_1 ++ [(⟨decide (t124 > 0), (⟨t129, a0⟩ : S38), (⟨t130, a1⟩ : S38), (⟨t131, a2⟩ : S38)⟩ : S40)]) := ⟨_, rfl⟩
           replace H : (chunk_OfL.l0 kj6 a0 a1 a2 t1 t2 y137 t1 t2 a0 a1 a2) = some (q1, q2, q3, q4, q5) := by first | (rw [hy137]; with_reducible exact H) | (have H2_ := (Option.bind_some _ _).symm.trans H; rw [hy137]; with_reducible exact H2_) | (have H2_ := (Option.bind_some _ _).symm.trans H; with_reducible exact H2_) | with_reducible exact H | (rw [hy137]; exact H) | exact H
           have Ny137 := Aside0.mk hy137
           clear hy137
           have H' := Aside0.mk H
           clear H
           go_wp2_with (first | (go_at_call 22; (with_reducible refine (chunk_sweep_stable.calls kj6 g t1 t2 x6002_1 x6003_1 x6004_1 t124 t125 t126 t127 W0 _ ?side1 ?side2 A14.out).mono ?_); (case side1 => repeat (first | (with_reducible first | exact HI5.out | apply IsS63.alloc | apply IsS63.drewN | apply IsS63.drew | apply IsS63.set_2 | apply IsS63.set_3 | apply IsS63.set_4) | exact HI5.out)); (case side2 => repeat (first | (with_reducible first | exact HB.out | apply below_alloc | apply pw_below_drewN | apply below_drew1 | refine below_set ?_ (IsS63.ge HI5.out)) | exact HB.out)); rintro e w29 ⟨rfl, hi, hb, hk⟩; have n0_ := Aside0.mk (Kd.R_mono (Kd.R_keep (IsS63.apart (show IsS63 W0 _ g t1 t2 x6002_1 x6003_1 x6004_1 from by repeat (first | (with_reducible first | exact HI5.out | apply IsS63.alloc | apply IsS63.drewN | apply IsS63.drew | apply IsS63.set_2 | apply IsS63.set_3 | apply IsS63.set_4) | exact HI5.out)) (by (with_reducible repeat (first | apply Kd.R_alloc | apply Kd.R_drewN | apply Kd.R_drew)); exact HO_17.out) (by decide)) hk (fun _ h => h.2)) (fun _ h => h.1)); have n1_ := Aside0.mk (KeepBut.trans (by repeat (first | (with_reducible first | exact HK.out | apply KeepBut.set_ | apply keep_drewN | apply keep_drew | apply keep_alloc) | exact HK.out)) hk (.inl rfl)); have n2_ := Aside0.mk (hb); have n3_ := Aside0.mk (hi); clear HO_17; clear HK; clear HB; clear HI5; have HO_17 := n0_; have HK := n1_; have HB := n2_; have HI5 := n3_; clear n0_ n1_ n2_ n3_; (try clear hb); (try clear hb2); (try clear hk); (try clear hi); obtain ⟨ASz30_0, cSz30_0, ASz30_1, cSz30_1, HGz30, hgz30, HSz30_0, HSz30_1⟩ := HI5.out; have hcz30_0 := cellS63_0 HGz30; have hcz30_1 := cellS63_1 HGz30; have hcz30_2 := cellS63_2 HGz30; have hcz30_3 := cellS63_3 HGz30; have hcz30_4 := cellS63_4 HGz30; have hfz30_2 := blk_frozen HGz30 2; have hfz30_3 := blk_frozen HGz30 3; have hfz30_4 := blk_frozen HGz30 4; clear HGz30 hgz30) | (go_at_call 23; (with_reducible refine (chunk_sweep_next.calls kj6 g t1 t2 t125 t126 t127 t128 t129 t130 t131 W0 _ ?side1 ?side2 A16.out).mono ?_); (case side1 => repeat (first | (with_reducible first | exact HI5.out | apply IsS63.alloc | apply IsS63.drewN | apply IsS63.drew | apply IsS63.set_2 | apply IsS63.set_3 | apply IsS63.set_4) | exact HI5.out)); (case side2 => repeat (first | (with_reducible first | exact HB.out | apply below_alloc | apply pw_below_drewN | apply below_drew1 | refine below_set ?_ (IsS63.ge HI5.out)) | exact HB.out)); rintro e w31 ⟨rfl, hi, hb, hk⟩; have n0_ := Aside0.mk (Kd.R_mono (Kd.R_keep (IsS63.apart (show IsS63 W0 _ g t1 t2 t125 t126 t127 from by repeat (first | (with_reducible first | exact HI5.out | apply IsS63.alloc | apply IsS63.drewN | apply IsS63.drew | apply IsS63.set_2 | apply IsS63.set_3 | apply IsS63.set_4) | exact HI5.out)) (by (with_reducible repeat (first | apply Kd.R_alloc | apply Kd.R_drewN | apply Kd.R_drew)); exact HO_17.out) (by decide)) hk (fun _ h => h.2)) (fun _ h => h.1)); have n1_ := Aside0.mk (KeepBut.trans (by repeat (first | (with_reducible first | exact HK.out | apply KeepBut.set_ | apply keep_drewN | apply keep_drew | apply keep_alloc) | exact HK.out)) hk (.inl rfl)); have n2_ := Aside0.mk (hb); have n3_ := Aside0.mk (hi); clear HO_17; clear HK; clear HB; clear HI5; have HO_17 := n0_; have HK := n1_; have HB := n2_; have HI5 := n3_; clear n0_ n1_ n2_ n3_; (try clear hb); (try clear hb2); (try clear hk); (try clear hi); obtain ⟨ASz32_0, cSz32_0, ASz32_1, cSz32_1, HGz32, hgz32, HSz32_0, HSz32_1⟩ := HI5.out; have hcz32_0 := cellS63_0 HGz32; have hcz32_1 := cellS63_1 HGz32; have hcz32_2 := cellS63_2 HGz32; have hcz32_3 := cellS63_3 HGz32; have hcz32_4 := cellS63_4 HGz32; have hfz32_2 := blk_frozen HGz32 2; have hfz32_3 := blk_frozen HGz32 3; have hfz32_4 := blk_frozen HGz32 4; clear HGz32 hgz32))
           repeat (go_quiet (fail); try go_wp2_with (first | (go_at_call 22; (with_reducible refine (chunk_sweep_stable.calls kj6 g t1 t2 x6002_1 x6003_1 x6004_1 t124 t125 t126 t127 W0 _ ?side1 ?side2 A14.out).mono ?_); (case side1 => repeat (first | (with_reducible first | exact HI5.out | apply IsS63.alloc | apply IsS63.drewN | apply IsS63.drew | apply IsS63.set_2 | apply IsS63.set_3 | apply IsS63.set_4) | exact HI5.out)); (case side2 => repeat (first | (with_reducible first | exact HB.out | apply below_alloc | apply pw_below_drewN | apply below_drew1 | refine below_set ?_ (IsS63.ge HI5.out)) | exact HB.out)); rintro e w29 ⟨rfl, hi, hb, hk⟩; have n0_ := Aside0.mk (Kd.R_mono (Kd.R_keep (IsS63.apart (show IsS63 W0 _ g t1 t2 x6002_1 x6003_1 x6004_1 from by repeat (first | (with_reducible first | exact HI5.out | apply IsS63.alloc | apply IsS63.drewN | apply IsS63.drew | apply IsS63.set_2 | apply IsS63.set_3 | apply IsS63.set_4) | exact HI5.out)) (by (with_reducible repeat (first | apply Kd.R_alloc | apply Kd.R_drewN | apply Kd.R_drew)); exact HO_17.out) (by decide)) hk (fun _ h => h.2)) (fun _ h => h.1)); have n1_ := Aside0.mk (KeepBut.trans (by repeat (first | (with_reducible first | exact HK.out | apply KeepBut.set_ | apply keep_drewN | apply keep_drew | apply keep_alloc) | exact HK.out)) hk (.inl rfl)); have n2_ := Aside0.mk (hb); have n3_ := Aside0.mk (hi); clear HO_17; clear HK; clear HB; clear HI5; have HO_17 := n0_; have HK := n1_; have HB := n2_; have HI5 := n3_; clear n0_ n1_ n2_ n3_; (try clear hb); (try clear hb2); (try clear hk); (try clear hi); obtain ⟨ASz30_0, cSz30_0, ASz30_1, cSz30_1, HGz30, hgz30, HSz30_0, HSz30_1⟩ := HI5.out; have hcz30_0 := cellS63_0 HGz30; have hcz30_1 := cellS63_1 HGz30; have hcz30_2 := cellS63_2 HGz30; have hcz30_3 := cellS63_3 HGz30; have hcz30_4 := cellS63_4 HGz30; have hfz30_2 := blk_frozen HGz30 2; have hfz30_3 := blk_frozen HGz30 3; have hfz30_4 := blk_frozen HGz30 4; clear HGz30 hgz30) | (go_at_call 23; (with_reducible refine (chunk_sweep_next.calls kj6 g t1 t2 t125 t126 t127 t128 t129 t130 t131 W0 _ ?side1 ?side2 A16.out).mono ?_); (case side1 => repeat (first | (with_reducible first | exact HI5.out | apply IsS63.alloc | apply IsS63.drewN | apply IsS63.drew | apply IsS63.set_2 | apply IsS63.set_3 | apply IsS63.set_4) | exact HI5.out)); (case side2 => repeat (first | (with_reducible first | exact HB.out | apply below_alloc | apply pw_below_drewN | apply below_drew1 | refine below_set ?_ (IsS63.ge HI5.out)) | exact HB.out)); rintro e w31 ⟨rfl, hi, hb, hk⟩; have n0_ := Aside0.mk (Kd.R_mono (Kd.R_keep (IsS63.apart (show IsS63 W0 _ g t1 t2 t125 t126 t127 from by repeat (first | (with_reducible first | exact HI5.out | apply IsS63.alloc | apply IsS63.drewN | apply IsS63.drew | apply IsS63.set_2 | apply IsS63.set_3 | apply IsS63.set_4) | exact HI5.out)) (by (with_reducible repeat (first | apply Kd.R_alloc | apply Kd.R_drewN | apply Kd.R_drew)); exact HO_17.out) (by decide)) hk (fun _ h => h.2)) (fun _ h => h.1)); have n1_ := Aside0.mk (KeepBut.trans (by repeat (first | (with_reducible first | exact HK.out | apply KeepBut.set_ | apply keep_drewN | apply keep_drew | apply keep_alloc) | exact HK.out)) hk (.inl rfl)); have n2_ := Aside0.mk (hb); have n3_ := Aside0.mk (hi); clear HO_17; clear HK; clear HB; clear HI5; have HO_17 := n0_; have HK := n1_; have HB := n2_; have HI5 := n3_; clear n0_ n1_ n2_ n3_; (try clear hb); (try clear hb2); (try clear hk); (try clear hi); obtain ⟨ASz32_0, cSz32_0, ASz32_1, cSz32_1, HGz32, hgz32, HSz32_0, HSz32_1⟩ := HI5.out; have hcz32_0 := cellS63_0 HGz32; have hcz32_1 := cellS63_1 HGz32; have hcz32_2 := cellS63_2 HGz32; have hcz32_3 := cellS63_3 HGz32; have hcz32_4 := cellS63_4 HGz32; have hfz32_2 := blk_frozen HGz32 2; have hfz32_3 := blk_frozen HGz32 3; have hfz32_4 := blk_frozen HGz32 4; clear HGz32 hgz32)))
           refine start_ (n := 25) (S := fun w' => w'.cell? ⟨g, 2, none⟩ = some (.int .i64 t129) ∧ w'.cell? ⟨g, 3, none⟩ = some (.int .i64 t130) ∧ w'.cell? ⟨g, 4, none⟩ = some (.int .i64 t131)) (ds := []) #[false, false, false, false, false, false, false, false, false, false, false, false, false, false, false, false, false, false, false, false, false, false, false, false, false] (by kernel_rfl) rfl rfl ⟨hcz32_2, hcz32_3, hcz32_4⟩ (fun hHeld => ?_)
           refine with_tabW chunk_Of.tab15 chunk_Of.bits15 (fun HT_ HW_ => ?_)
           generalize hW2 : World.drew _ = W2 at hHeld ⊢
           have n0_ : Aside0 (Kd.R k40 40 W2 W1.heap.size (fun _ => True) u17 x17_1) := ⟨by rw [← hW2]; exact HO_17.out⟩
           have n1_ : Aside0 (IsS63 W0 W2 g t1 t2 t129 t130 t131) := ⟨by rw [← hW2]; exact HI5.out⟩
           have n2_ : Aside0 (KeepBut W1 W2 g none) := ⟨by rw [← hW2]; exact HK.out⟩
           have n3_ : Aside0 (Below W0.heap.size W0 W2) := ⟨by rw [← hW2]; first | exact below_drew1 HB.out | exact below_drew1 (pw_below_drewN HB.out _)⟩
           clear HO_17 HI5 HK HB hW2
           have HO_17 := n0_
           have HI5 := n1_
           have HK := n2_
           have HB := n3_
           clear n0_ n1_ n2_ n3_
           refine pure_ (i := 0) (N := some 108) (v := ?_) (a' := ?_) #[true, false, false, false, false, false, false, false, false, false, false, false, false, false, false, false, false, false, false, false, false, false, false, false, false] rfl rfl (any_of HT_.out (by kernel_rfl)) (fun _ _ _ h => h) (Or.inl ⟨by rfl, ?_⟩) ?_ ?_
           rotate_left
           ·intro w'
            go_simp
            with_reducible rfl
           rotate_left
           ·simp only [Act.put, List.setIfInBounds_toArray, List.set_cons_zero, List.set_cons_succ, i64_w, i32_w]
            rfl
           refine pure_ (i := 1) (N := some 109) (v := ?_) (a' := ?_) #[true, true, false, false, false, false, false, false, false, false, false, false, false, false, false, false, false, false, false, false, false, false, false, false, false] rfl rfl (any_of HT_.out (by kernel_rfl)) (fun _ _ _ h => h) (Or.inl ⟨by rfl, ?_⟩) ?_ ?_
           rotate_left
           ·intro w'
            go_simp
            with_reducible rfl
           rotate_left
           ·simp only [Act.put, List.setIfInBounds_toArray, List.set_cons_zero, List.set_cons_succ, i64_w, i32_w]
            rfl
           refine pure_ (i := 2) (N := some 110) (v := ?_) (a' := ?_) #[true, true, true, false, false, false, false, false, false, false, false, false, false, false, false, false, false, false, false, false, false, false, false, false, false] rfl rfl (any_of HT_.out (by kernel_rfl)) (fun _ _ _ h => h) (Or.inl ⟨by rfl, ?_⟩) ?_ ?_
           rotate_left
           ·intro w'
            go_simp
            with_reducible rfl
           rotate_left
           ·simp only [Act.put, List.setIfInBounds_toArray, List.set_cons_zero, List.set_cons_succ, i64_w, i32_w]
            rfl
           refine pure_ (i := 3) (N := some 111) (v := ?_) (a' := ?_) #[true, true, true, true, false, false, false, false, false, false, false, false, false, false, false, false, false, false, false, false, false, false, false, false, false] rfl rfl (any_of HT_.out (by kernel_rfl)) (fun _ _ _ h => h) (Or.inl ⟨by rfl, ?_⟩) ?_ ?_
           rotate_left
           ·intro w'
            go_simp
            with_reducible rfl
           rotate_left
           ·simp only [Act.put, List.setIfInBounds_toArray, List.set_cons_zero, List.set_cons_succ, i64_w, i32_w]
            rfl
           refine pure_ (i := 4) (N := some 112) (v := ?_) (a' := ?_) #[true, true, true, true, true, false, false, false, false, false, false, false, false, false, false, false, false, false, false, false, false, false, false, false, false] rfl rfl (any_of HT_.out (by kernel_rfl)) (fun _ _ _ h => h) (Or.inl ⟨by rfl, ?_⟩) ?_ ?_
           rotate_left
           ·intro w'
            go_simp
            with_reducible rfl
           rotate_left
           ·simp only [Act.put, List.setIfInBounds_toArray, List.set_cons_zero, List.set_cons_succ, i64_w, i32_w]
            rfl
           refine pure_ (i := 5) (N := some 113) (v := ?_) (a' := ?_) #[true, true, true, true, true, true, false, false, false, false, false, false, false, false, false, false, false, false, false, false, false, false, false, false, false] rfl rfl (any_of HT_.out (by kernel_rfl)) (fun _ _ _ h => h) (Or.inl ⟨by rfl, ?_⟩) ?_ ?_
           rotate_left
           ·intro w'
            go_simp
            with_reducible rfl
           rotate_left
           ·simp only [Act.put, List.setIfInBounds_toArray, List.set_cons_zero, List.set_cons_succ, i64_w, i32_w]
            rfl
           refine pure_ (i := 7) (N := some 115) (v := ?_) (a' := ?_) #[true, true, true, true, true, true, false, true, false, false, false, false, false, false, false, false, false, false, false, false, false, false, false, false, false] rfl rfl (any_of HT_.out (by kernel_rfl)) (fun _ _ _ h => h) (Or.inl ⟨by rfl, ?_⟩) ?_ ?_
           rotate_left
           ·intro w'
            go_simp
            with_reducible rfl
           rotate_left
           ·simp only [Act.put, List.setIfInBounds_toArray, List.set_cons_zero, List.set_cons_succ, i64_w, i32_w]
            rfl
           refine pure_ (i := 9) (N := some 117) (v := ?_) (a' := ?_) #[true, true, true, true, true, true, false, true, false, true, false, false, false, false, false, false, false, false, false, false, false, false, false, false, false] rfl rfl (any_of HT_.out (by kernel_rfl)) (fun _ _ _ h => h) (Or.inl ⟨by rfl, ?_⟩) ?_ ?_
           rotate_left
           ·intro w'
            go_simp
            with_reducible rfl
           rotate_left
           ·simp only [Act.put, List.setIfInBounds_toArray, List.set_cons_zero, List.set_cons_succ, i64_w, i32_w]
            rfl
           refine pure_ (i := 10) (N := some 118) (v := ?_) (a' := ?_) #[true, true, true, true, true, true, false, true, false, true, true, false, false, false, false, false, false, false, false, false, false, false, false, false, false] rfl rfl (any_of HT_.out (by kernel_rfl)) (fun _ _ _ h => h) (Or.inl ⟨by rfl, ?_⟩) ?_ ?_
           rotate_left
           ·intro w'
            go_simp
            with_reducible rfl
           rotate_left
           ·simp only [Act.put, List.setIfInBounds_toArray, List.set_cons_zero, List.set_cons_succ, i64_w, i32_w]
            rfl
           refine pure_ (i := 11) (N := some 119) (v := ?_) (a' := ?_) #[true, true, true, true, true, true, false, true, false, true, true, true, false, false, false, false, false, false, false, false, false, false, false, false, false] rfl rfl (any_of HT_.out (by kernel_rfl)) (fun _ _ _ h => h) (Or.inl ⟨by rfl, ?_⟩) ?_ ?_
           rotate_left
           ·intro w'
            go_simp
            with_reducible rfl
           rotate_left
           ·simp only [Act.put, List.setIfInBounds_toArray, List.set_cons_zero, List.set_cons_succ, i64_w, i32_w]
            rfl
           refine pure_ (i := 13) (N := some 121) (v := ?_) (a' := ?_) #[true, true, true, true, true, true, false, true, false, true, true, true, false, true, false, false, false, false, false, false, false, false, false, false, false] rfl rfl (any_of HT_.out (by kernel_rfl)) (fun _ _ _ h => h) (Or.inl ⟨by rfl, ?_⟩) ?_ ?_
           rotate_left
           ·intro w'
            go_simp
            with_reducible rfl
           rotate_left
           ·simp only [Act.put, List.setIfInBounds_toArray, List.set_cons_zero, List.set_cons_succ, i64_w, i32_w]
            rfl
           refine pure_ (i := 15) (N := some 123) (v := ?_) (a' := ?_) #[true, true, true, true, true, true, false, true, false, true, true, true, false, true, false, true, false, false, false, false, false, false, false, false, false] rfl rfl (any_of HT_.out (by kernel_rfl)) (fun _ _ _ h => h) (Or.inl ⟨by rfl, ?_⟩) ?_ ?_
           rotate_left
           ·intro w'
            go_simp
            with_reducible rfl
           rotate_left
           ·simp only [Act.put, List.setIfInBounds_toArray, List.set_cons_zero, List.set_cons_succ, i64_w, i32_w]
            rfl
           refine pure_ (i := 16) (N := some 124) (v := ?_) (a' := ?_) #[true, true, true, true, true, true, false, true, false, true, true, true, false, true, false, true, true, false, false, false, false, false, false, false, false] rfl rfl (any_of HT_.out (by kernel_rfl)) (fun _ _ _ h => h) (Or.inl ⟨by rfl, ?_⟩) ?_ ?_
           rotate_left
           ·intro w'
            go_simp
            with_reducible rfl
           rotate_left
           ·simp only [Act.put, List.setIfInBounds_toArray, List.set_cons_zero, List.set_cons_succ, i64_w, i32_w]
            rfl
           refine pure_ (i := 17) (N := some 125) (v := ?_) (a' := ?_) #[true, true, true, true, true, true, false, true, false, true, true, true, false, true, false, true, true, true, false, false, false, false, false, false, false] rfl rfl (any_of HT_.out (by kernel_rfl)) (fun _ _ _ h => h) (Or.inl ⟨by rfl, ?_⟩) ?_ ?_
           rotate_left
           ·intro w'
            go_simp
            with_reducible rfl
           rotate_left
           ·simp only [Act.put, List.setIfInBounds_toArray, List.set_cons_zero, List.set_cons_succ, i64_w, i32_w]
            rfl
           refine pure_ (i := 19) (N := some 127) (v := ?_) (a' := ?_) #[true, true, true, true, true, true, false, true, false, true, true, true, false, true, false, true, true, true, false, true, false, false, false, false, false] rfl rfl (any_of HT_.out (by kernel_rfl)) (fun _ _ _ h => h) (Or.inl ⟨by rfl, ?_⟩) ?_ ?_
           rotate_left
           ·intro w'
            go_simp
            with_reducible rfl
           rotate_left
           ·simp only [Act.put, List.setIfInBounds_toArray, List.set_cons_zero, List.set_cons_succ, i64_w, i32_w]
            rfl
           refine take_ (i := 6) (N := some 114) (v := ?_) (a' := ?_) #[true, true, true, true, true, true, true, true, false, true, true, true, false, true, false, true, true, true, false, true, false, false, false, false, false] rfl rfl (take_ofW HT_.out HW_.out (by kernel_rfl)) (fun _ _ _ h => h) (Or.inl ⟨by rfl, ?_⟩) hHeld ?_ ?_
           rotate_left
           ·rintro w' ⟨s0, s1, s2⟩
            go_simp
            with_reducible rfl
           rotate_left
           ·simp only [Act.put, List.setIfInBounds_toArray, List.set_cons_zero, List.set_cons_succ, i64_w, i32_w]
            rfl
           refine take_ (i := 12) (N := some 120) (v := ?_) (a' := ?_) #[true, true, true, true, true, true, true, true, false, true, true, true, true, true, false, true, true, true, false, true, false, false, false, false, false] rfl rfl (take_ofW HT_.out HW_.out (by kernel_rfl)) (fun _ _ _ h => h) (Or.inl ⟨by rfl, ?_⟩) hHeld ?_ ?_
           rotate_left
           ·rintro w' ⟨s0, s1, s2⟩
            go_simp
            with_reducible rfl
           rotate_left
           ·simp only [Act.put, List.setIfInBounds_toArray, List.set_cons_zero, List.set_cons_succ, i64_w, i32_w]
            rfl
           refine take_ (i := 18) (N := some 126) (v := ?_) (a' := ?_) #[true, true, true, true, true, true, true, true, false, true, true, true, true, true, false, true, true, true, true, true, false, false, false, false, false] rfl rfl (take_ofW HT_.out HW_.out (by kernel_rfl)) (fun _ _ _ h => h) (Or.inl ⟨by rfl, ?_⟩) hHeld ?_ ?_
           rotate_left
           ·rintro w' ⟨s0, s1, s2⟩
            go_simp
            with_reducible rfl
           rotate_left
           ·simp only [Act.put, List.setIfInBounds_toArray, List.set_cons_zero, List.set_cons_succ, i64_w, i32_w]
            rfl
           refine pure_ (i := 8) (N := some 116) (v := ?_) (a' := ?_) #[true, true, true, true, true, true, true, true, true, true, true, true, true, true, false, true, true, true, true, true, false, false, false, false, false] rfl rfl (any_of HT_.out (by kernel_rfl)) (fun _ _ _ h => h) (Or.inl ⟨by rfl, ?_⟩) ?_ ?_
           rotate_left
           ·intro w'
            go_simp
            with_reducible rfl
           rotate_left
           ·simp only [Act.put, List.setIfInBounds_toArray, List.set_cons_zero, List.set_cons_succ, i64_w, i32_w]
            rfl
           refine pure_ (i := 14) (N := some 122) (v := ?_) (a' := ?_) #[true, true, true, true, true, true, true, true, true, true, true, true, true, true, true, true, true, true, true, true, false, false, false, false, false] rfl rfl (any_of HT_.out (by kernel_rfl)) (fun _ _ _ h => h) (Or.inl ⟨by rfl, ?_⟩) ?_ ?_
           rotate_left
           ·intro w'
            go_simp
            with_reducible rfl
           rotate_left
           ·simp only [Act.put, List.setIfInBounds_toArray, List.set_cons_zero, List.set_cons_succ, i64_w, i32_w]
            rfl
           refine pure_ (i := 20) (N := some 128) (v := ?_) (a' := ?_) #[true, true, true, true, true, true, true, true, true, true, true, true, true, true, true, true, true, true, true, true, true, false, false, false, false] rfl rfl (any_of HT_.out (by kernel_rfl)) (fun _ _ _ h => h) (Or.inl ⟨by rfl, ?_⟩) ?_ ?_
           rotate_left
           ·intro w'
            go_simp
            with_reducible rfl
           rotate_left
           ·simp only [Act.put, List.setIfInBounds_toArray, List.set_cons_zero, List.set_cons_succ, i64_w, i32_w]
            rfl
           refine pure_ (i := 21) (N := some 129) (v := ?_) (a' := ?_) #[true, true, true, true, true, true, true, true, true, true, true, true, true, true, true, true, true, true, true, true, true, true, false, false, false] rfl rfl (any_of HT_.out (by kernel_rfl)) (fun _ _ _ h => h) (Or.inl ⟨by rfl, ?_⟩) ?_ ?_
           rotate_left
           ·intro w'
            go_simp
            with_reducible rfl
           rotate_left
           ·simp only [Act.put, List.setIfInBounds_toArray, List.set_cons_zero, List.set_cons_succ, i64_w, i32_w]
            rfl
           refine one_ (i := 22) (N := some 130) #[true, true, true, true, true, true, true, true, true, true, true, true, true, true, true, true, true, true, true, true, true, true, true, false, false] rfl rfl (one_of HT_.out (by kernel_rfl)) (by decide) (fun K hK => ?_)
           refine value_ (w1 := ?_) (v := ?_) (by rfl) rfl ?_ ?_
           rotate_left 2
           ·go_simp
            constructor
            ·rfl
            ·rfl
           refine hK.out _ _ ⟨(World.cell?_alloc_lt _ _ _ (World.block_lt_of_cell? _ _ hHeld.1)).trans hHeld.1, (World.cell?_alloc_lt _ _ _ (World.block_lt_of_cell? _ _ hHeld.2.1)).trans hHeld.2.1, (World.cell?_alloc_lt _ _ _ (World.block_lt_of_cell? _ _ hHeld.2.2)).trans hHeld.2.2⟩ (fun hHeld => ?_)
           clear hK K
           refine norm_ (a' := ?_) ?_ ?_
           rotate_left
           ·show Act.put _ (some 130) _ = _
            simp only [Act.put, List.setIfInBounds_toArray, List.set_cons_zero, List.set_cons_succ, i64_w, i32_w]
            rfl
           refine one_ (i := 23) (N := some 131) #[true, true, true, true, true, true, true, true, true, true, true, true, true, true, true, true, true, true, true, true, true, true, true, true, false] rfl rfl (one_of HT_.out (by kernel_rfl)) (by decide) (fun K hK => ?_)
           refine Kd.R_append_step k40 W1.heap.size (by rfl) (.tmp 108) (.tmp 130) 25 40 (.agg #[(.bool false), (.int .i64 0), (.int .i64 0), (.int .i64 0), (.int .i64 0), (.int .i64 0), (.int .i64 0)]) 56 rfl Try.underlying25 info40 rfl (by decide) (by omega) u17 x17_1 (⟨decide (t124 > 0), (⟨t129, a0⟩ : S38), (⟨t130, a1⟩ : S38), (⟨t131, a2⟩ : S38)⟩ : S40) [.bool (decide (t124 > 0)), .int .i64 t129, .int .i64 a0, .int .i64 t130, .int .i64 a1, .int .i64 t131, .int .i64 a2] (fun _ => True) (fun _ => False) rfl rfl ?aP (fun _ hk => hk.elim) ?aF ?aO (Below.refl _ _) ?aS ?aL ?_
           (case aP => exact k40_mkM _ _ _ (⟨decide (t124 > 0), (⟨t129, a0⟩ : S38), (⟨t130, a1⟩ : S38), (⟨t131, a2⟩ : S38)⟩ : S40))
           (case aF => exact (fun _ _ => trivial))
           (case aO => exact (by (with_reducible repeat (first | apply Kd.R_alloc | apply Kd.R_drewN | apply Kd.R_drew)); exact HO_17.out))
           (case aS => exact (keep_size (w := W1) (g := g) (row := none) (by repeat (first | (with_reducible first | exact HK.out | apply KeepBut.set_ | apply keep_drewN | apply keep_drew | apply keep_alloc) | exact HK.out))))
           (case aL => have := LMc28.out; omega)
           intro v138 w33 ho hb hg hat
           rw [← Ny137.out] at ho
           have n0_ := Aside0.mk (IsS63.grown (by repeat (first | (with_reducible first | exact HI5.out | apply IsS63.alloc | apply IsS63.drewN | apply IsS63.drew | apply IsS63.set_2 | apply IsS63.set_3 | apply IsS63.set_4) | exact HI5.out)) hg (IsS63.own_ne HI5.out HO_17.out (by decide)))
           have n1_ := Aside0.mk (below_weaken (by repeat (first | (with_reducible first | exact HB.out | apply below_alloc | apply pw_below_drewN | apply below_drew1 | refine below_set ?_ (IsS63.ge HI5.out)) | exact HB.out)) HL.out hb)
           have n2_ := Aside0.mk (KeepBut.trans (by repeat (first | (with_reducible first | exact HK.out | apply KeepBut.set_ | apply keep_drewN | apply keep_drew | apply keep_alloc) | exact HK.out)) (KeepBut.of_grown hg g) (Kd.R_base2 HO_17.out))
           have n3_ := Aside0.mk (ho)
           clear HI5
           clear HB
           clear HK
           clear HO_17
           have HI5 := n0_
           have HB := n1_
           have HK := n2_
           have HO139 := n3_
           clear n0_ n1_ n2_ n3_
           clear ho hb hg hat
           obtain ⟨ASz34_0, cSz34_0, ASz34_1, cSz34_1, HGz34, hgz34, HSz34_0, HSz34_1⟩ := HI5.out
           have hcz34_0 := cellS63_0 HGz34
           have hcz34_1 := cellS63_1 HGz34
           have hcz34_2 := cellS63_2 HGz34
           have hcz34_3 := cellS63_3 HGz34
           have hcz34_4 := cellS63_4 HGz34
           have hfz34_2 := blk_frozen HGz34 2
           have hfz34_3 := blk_frozen HGz34 3
           have hfz34_4 := blk_frozen HGz34 4
           clear HGz34 hgz34
           refine hK.out _ _ ⟨hcz34_2, hcz34_3, hcz34_4⟩ (fun hHeld => ?_)
           clear hK K
           refine norm_ (a' := ?_) ?_ ?_
           rotate_left
           ·show Act.put _ (some 131) _ = _
            simp only [Act.put, List.setIfInBounds_toArray, List.set_cons_zero, List.set_cons_succ, i64_w, i32_w]
            rfl
           refine pure_ (i := 24) (N := some 17) (v := ?_) (a' := ?_) #[true, true, true, true, true, true, true, true, true, true, true, true, true, true, true, true, true, true, true, true, true, true, true, true, true] rfl rfl (any_of HT_.out (by kernel_rfl)) (fun _ _ _ h => h) (Or.inl ⟨by rfl, ?_⟩) ?_ ?_
           rotate_left
           ·intro w'
            go_simp
            with_reducible rfl
           rotate_left
           ·simp only [Act.put, List.setIfInBounds_toArray, List.set_cons_zero, List.set_cons_succ, i64_w, i32_w]
            rfl
           refine done_ (done_of HT_.out (by kernel_rfl)) ?_
           go_wp2
           repeat (go_quiet (fail); try go_wp2)
           go_roundg kj6
           case measure => have := HK1.out; have := HJ6.out; omega
           case rel => exact ⟨(y137), (a0), (a1), (a2), H', ⟨by have := HK1.out; have := HJ6.out; omega⟩, ⟨by (with_reducible repeat (first | apply Kd.R_alloc | apply Kd.R_drewN | apply Kd.R_drew)); exact Kd.R_mono (Kd.R_far (p := ⟨g, 4, none⟩) (Kd.R_far (p := ⟨g, 3, none⟩) (Kd.R_far (p := ⟨g, 2, none⟩) (IsS63.apart HI5.out HO139.out (by decide)) (fun _ hk => hk.2) (.int .i64 a0)) (fun _ hk => hk.2) (.int .i64 a1)) (fun _ hk => hk.2) (.int .i64 a2)) (fun _ hk => trivial)⟩, ⟨by repeat (first | (with_reducible first | exact HI5.out | apply IsS63.alloc | apply IsS63.drewN | apply IsS63.drew | apply IsS63.set_2 | apply IsS63.set_3 | apply IsS63.set_4) | exact HI5.out)⟩, ⟨by repeat (first | (with_reducible first | exact HK.out | apply KeepBut.set_ | apply keep_drewN | apply keep_drew | apply keep_alloc) | exact HK.out)⟩, ⟨by repeat (first | (with_reducible first | exact HB.out | apply below_alloc | apply pw_below_drewN | apply below_drew1 | refine below_set ?_ (IsS63.ge HI5.out)) | exact HB.out)⟩⟩
          ·rw [if_neg c28] at H
           exact absurd H (by simp)
        ·rw [if_neg c15] at H
         have c15b0 : (t124 == 0) = false := beq_eq_false_iff_ne.mpr c15
         have c15b1 : (t124 != 0) = true := bne_iff_ne.mpr c15
         by_cases c35 : x17_1.length < 2513169434916
         ·rw [if_pos c35] at H
          have LMc35 := Aside0.mk c35
          clear c35
          obtain ⟨y140, hy140⟩ : ∃ y_ : List (S40), y_ = (x17_1 ++ [(⟨decide (t124 > 0), (⟨t125, wrap64 (t125 + t124)⟩ : S38), (⟨t126, wrap64 (t126 + t124)⟩ : S38), (⟨t127, wrap64 (t127 + t124)⟩ : S38)⟩ : S40)]) := ⟨_, rfl⟩
          replace H : (chunk_OfL.l0 kj6 a0 a1 a2 t1 t2 y140 t1 t2 (wrap64 (t125 + t124)) (wrap64 (t126 + t124)) (wrap64 (t127 + t124))) = some (q1, q2, q3, q4, q5) := by first | (rw [hy140]; with_reducible exact H) | (have H2_ := (Option.bind_some _ _).symm.trans H; rw [hy140]; with_reducible exact H2_) | (have H2_ := (Option.bind_some _ _).symm.trans H; with_reducible exact H2_) | with_reducible exact H | (rw [hy140]; exact H) | exact H
          have Ny140 := Aside0.mk hy140
          clear hy140
          have H' := Aside0.mk H
          clear H
          go_wp2_with (first | (go_at_call 22; (with_reducible refine (chunk_sweep_stable.calls kj6 g t1 t2 x6002_1 x6003_1 x6004_1 t124 t125 t126 t127 W0 _ ?side1 ?side2 A14.out).mono ?_); (case side1 => repeat (first | (with_reducible first | exact HI5.out | apply IsS63.alloc | apply IsS63.drewN | apply IsS63.drew | apply IsS63.set_2 | apply IsS63.set_3 | apply IsS63.set_4) | exact HI5.out)); (case side2 => repeat (first | (with_reducible first | exact HB.out | apply below_alloc | apply pw_below_drewN | apply below_drew1 | refine below_set ?_ (IsS63.ge HI5.out)) | exact HB.out)); rintro e w36 ⟨rfl, hi, hb, hk⟩; have n0_ := Aside0.mk (Kd.R_mono (Kd.R_keep (IsS63.apart (show IsS63 W0 _ g t1 t2 x6002_1 x6003_1 x6004_1 from by repeat (first | (with_reducible first | exact HI5.out | apply IsS63.alloc | apply IsS63.drewN | apply IsS63.drew | apply IsS63.set_2 | apply IsS63.set_3 | apply IsS63.set_4) | exact HI5.out)) (by (with_reducible repeat (first | apply Kd.R_alloc | apply Kd.R_drewN | apply Kd.R_drew)); exact HO_17.out) (by decide)) hk (fun _ h => h.2)) (fun _ h => h.1)); have n1_ := Aside0.mk (KeepBut.trans (by repeat (first | (with_reducible first | exact HK.out | apply KeepBut.set_ | apply keep_drewN | apply keep_drew | apply keep_alloc) | exact HK.out)) hk (.inl rfl)); have n2_ := Aside0.mk (hb); have n3_ := Aside0.mk (hi); clear HO_17; clear HK; clear HB; clear HI5; have HO_17 := n0_; have HK := n1_; have HB := n2_; have HI5 := n3_; clear n0_ n1_ n2_ n3_; (try clear hb); (try clear hb2); (try clear hk); (try clear hi); obtain ⟨ASz37_0, cSz37_0, ASz37_1, cSz37_1, HGz37, hgz37, HSz37_0, HSz37_1⟩ := HI5.out; have hcz37_0 := cellS63_0 HGz37; have hcz37_1 := cellS63_1 HGz37; have hcz37_2 := cellS63_2 HGz37; have hcz37_3 := cellS63_3 HGz37; have hcz37_4 := cellS63_4 HGz37; have hfz37_2 := blk_frozen HGz37 2; have hfz37_3 := blk_frozen HGz37 3; have hfz37_4 := blk_frozen HGz37 4; clear HGz37 hgz37))
          repeat (go_quiet (fail); try go_wp2_with (first | (go_at_call 22; (with_reducible refine (chunk_sweep_stable.calls kj6 g t1 t2 x6002_1 x6003_1 x6004_1 t124 t125 t126 t127 W0 _ ?side1 ?side2 A14.out).mono ?_); (case side1 => repeat (first | (with_reducible first | exact HI5.out | apply IsS63.alloc | apply IsS63.drewN | apply IsS63.drew | apply IsS63.set_2 | apply IsS63.set_3 | apply IsS63.set_4) | exact HI5.out)); (case side2 => repeat (first | (with_reducible first | exact HB.out | apply below_alloc | apply pw_below_drewN | apply below_drew1 | refine below_set ?_ (IsS63.ge HI5.out)) | exact HB.out)); rintro e w36 ⟨rfl, hi, hb, hk⟩; have n0_ := Aside0.mk (Kd.R_mono (Kd.R_keep (IsS63.apart (show IsS63 W0 _ g t1 t2 x6002_1 x6003_1 x6004_1 from by repeat (first | (with_reducible first | exact HI5.out | apply IsS63.alloc | apply IsS63.drewN | apply IsS63.drew | apply IsS63.set_2 | apply IsS63.set_3 | apply IsS63.set_4) | exact HI5.out)) (by (with_reducible repeat (first | apply Kd.R_alloc | apply Kd.R_drewN | apply Kd.R_drew)); exact HO_17.out) (by decide)) hk (fun _ h => h.2)) (fun _ h => h.1)); have n1_ := Aside0.mk (KeepBut.trans (by repeat (first | (with_reducible first | exact HK.out | apply KeepBut.set_ | apply keep_drewN | apply keep_drew | apply keep_alloc) | exact HK.out)) hk (.inl rfl)); have n2_ := Aside0.mk (hb); have n3_ := Aside0.mk (hi); clear HO_17; clear HK; clear HB; clear HI5; have HO_17 := n0_; have HK := n1_; have HB := n2_; have HI5 := n3_; clear n0_ n1_ n2_ n3_; (try clear hb); (try clear hb2); (try clear hk); (try clear hi); obtain ⟨ASz37_0, cSz37_0, ASz37_1, cSz37_1, HGz37, hgz37, HSz37_0, HSz37_1⟩ := HI5.out; have hcz37_0 := cellS63_0 HGz37; have hcz37_1 := cellS63_1 HGz37; have hcz37_2 := cellS63_2 HGz37; have hcz37_3 := cellS63_3 HGz37; have hcz37_4 := cellS63_4 HGz37; have hfz37_2 := blk_frozen HGz37 2; have hfz37_3 := blk_frozen HGz37 3; have hfz37_4 := blk_frozen HGz37 4; clear HGz37 hgz37)))
          refine start_ (n := 25) (S := fun w' => w'.cell? ⟨g, 2, none⟩ = some (.int .i64 t125) ∧ w'.cell? ⟨g, 3, none⟩ = some (.int .i64 t126) ∧ w'.cell? ⟨g, 4, none⟩ = some (.int .i64 t127)) (ds := []) #[false, false, false, false, false, false, false, false, false, false, false, false, false, false, false, false, false, false, false, false, false, false, false, false, false] (by kernel_rfl) rfl rfl ⟨hcz37_2, hcz37_3, hcz37_4⟩ (fun hHeld => ?_)
          refine with_tabW chunk_Of.tab15 chunk_Of.bits15 (fun HT_ HW_ => ?_)
          generalize hW2 : World.drew _ = W2 at hHeld ⊢
          have n0_ : Aside0 (Kd.R k40 40 W2 W1.heap.size (fun _ => True) u17 x17_1) := ⟨by rw [← hW2]; exact HO_17.out⟩
          have n1_ : Aside0 (IsS63 W0 W2 g t1 t2 t125 t126 t127) := ⟨by rw [← hW2]; exact HI5.out⟩
          have n2_ : Aside0 (KeepBut W1 W2 g none) := ⟨by rw [← hW2]; exact HK.out⟩
          have n3_ : Aside0 (Below W0.heap.size W0 W2) := ⟨by rw [← hW2]; first | exact below_drew1 HB.out | exact below_drew1 (pw_below_drewN HB.out _)⟩
          clear HO_17 HI5 HK HB hW2
          have HO_17 := n0_
          have HI5 := n1_
          have HK := n2_
          have HB := n3_
          clear n0_ n1_ n2_ n3_
          refine pure_ (i := 0) (N := some 108) (v := ?_) (a' := ?_) #[true, false, false, false, false, false, false, false, false, false, false, false, false, false, false, false, false, false, false, false, false, false, false, false, false] rfl rfl (any_of HT_.out (by kernel_rfl)) (fun _ _ _ h => h) (Or.inl ⟨by rfl, ?_⟩) ?_ ?_
          rotate_left
          ·intro w'
           go_simp
           with_reducible rfl
          rotate_left
          ·simp only [Act.put, List.setIfInBounds_toArray, List.set_cons_zero, List.set_cons_succ, i64_w, i32_w]
           rfl
          refine pure_ (i := 1) (N := some 109) (v := ?_) (a' := ?_) #[true, true, false, false, false, false, false, false, false, false, false, false, false, false, false, false, false, false, false, false, false, false, false, false, false] rfl rfl (any_of HT_.out (by kernel_rfl)) (fun _ _ _ h => h) (Or.inl ⟨by rfl, ?_⟩) ?_ ?_
          rotate_left
          ·intro w'
           go_simp
           with_reducible rfl
          rotate_left
          ·simp only [Act.put, List.setIfInBounds_toArray, List.set_cons_zero, List.set_cons_succ, i64_w, i32_w]
           rfl
          refine pure_ (i := 2) (N := some 110) (v := ?_) (a' := ?_) #[true, true, true, false, false, false, false, false, false, false, false, false, false, false, false, false, false, false, false, false, false, false, false, false, false] rfl rfl (any_of HT_.out (by kernel_rfl)) (fun _ _ _ h => h) (Or.inl ⟨by rfl, ?_⟩) ?_ ?_
          rotate_left
          ·intro w'
           go_simp
           with_reducible rfl
          rotate_left
          ·simp only [Act.put, List.setIfInBounds_toArray, List.set_cons_zero, List.set_cons_succ, i64_w, i32_w]
           rfl
          refine pure_ (i := 3) (N := some 111) (v := ?_) (a' := ?_) #[true, true, true, true, false, false, false, false, false, false, false, false, false, false, false, false, false, false, false, false, false, false, false, false, false] rfl rfl (any_of HT_.out (by kernel_rfl)) (fun _ _ _ h => h) (Or.inl ⟨by rfl, ?_⟩) ?_ ?_
          rotate_left
          ·intro w'
           go_simp
           with_reducible rfl
          rotate_left
          ·simp only [Act.put, List.setIfInBounds_toArray, List.set_cons_zero, List.set_cons_succ, i64_w, i32_w]
           rfl
          refine pure_ (i := 4) (N := some 112) (v := ?_) (a' := ?_) #[true, true, true, true, true, false, false, false, false, false, false, false, false, false, false, false, false, false, false, false, false, false, false, false, false] rfl rfl (any_of HT_.out (by kernel_rfl)) (fun _ _ _ h => h) (Or.inl ⟨by rfl, ?_⟩) ?_ ?_
          rotate_left
          ·intro w'
           go_simp
           with_reducible rfl
          rotate_left
          ·simp only [Act.put, List.setIfInBounds_toArray, List.set_cons_zero, List.set_cons_succ, i64_w, i32_w]
           rfl
          refine pure_ (i := 5) (N := some 113) (v := ?_) (a' := ?_) #[true, true, true, true, true, true, false, false, false, false, false, false, false, false, false, false, false, false, false, false, false, false, false, false, false] rfl rfl (any_of HT_.out (by kernel_rfl)) (fun _ _ _ h => h) (Or.inl ⟨by rfl, ?_⟩) ?_ ?_
          rotate_left
          ·intro w'
           go_simp
           with_reducible rfl
          rotate_left
          ·simp only [Act.put, List.setIfInBounds_toArray, List.set_cons_zero, List.set_cons_succ, i64_w, i32_w]
           rfl
          refine pure_ (i := 7) (N := some 115) (v := ?_) (a' := ?_) #[true, true, true, true, true, true, false, true, false, false, false, false, false, false, false, false, false, false, false, false, false, false, false, false, false] rfl rfl (any_of HT_.out (by kernel_rfl)) (fun _ _ _ h => h) (Or.inl ⟨by rfl, ?_⟩) ?_ ?_
          rotate_left
          ·intro w'
           go_simp
           with_reducible rfl
          rotate_left
          ·simp only [Act.put, List.setIfInBounds_toArray, List.set_cons_zero, List.set_cons_succ, i64_w, i32_w]
           rfl
          refine pure_ (i := 9) (N := some 117) (v := ?_) (a' := ?_) #[true, true, true, true, true, true, false, true, false, true, false, false, false, false, false, false, false, false, false, false, false, false, false, false, false] rfl rfl (any_of HT_.out (by kernel_rfl)) (fun _ _ _ h => h) (Or.inl ⟨by rfl, ?_⟩) ?_ ?_
          rotate_left
          ·intro w'
           go_simp
           with_reducible rfl
          rotate_left
          ·simp only [Act.put, List.setIfInBounds_toArray, List.set_cons_zero, List.set_cons_succ, i64_w, i32_w]
           rfl
          refine pure_ (i := 10) (N := some 118) (v := ?_) (a' := ?_) #[true, true, true, true, true, true, false, true, false, true, true, false, false, false, false, false, false, false, false, false, false, false, false, false, false] rfl rfl (any_of HT_.out (by kernel_rfl)) (fun _ _ _ h => h) (Or.inl ⟨by rfl, ?_⟩) ?_ ?_
          rotate_left
          ·intro w'
           go_simp
           with_reducible rfl
          rotate_left
          ·simp only [Act.put, List.setIfInBounds_toArray, List.set_cons_zero, List.set_cons_succ, i64_w, i32_w]
           rfl
          refine pure_ (i := 11) (N := some 119) (v := ?_) (a' := ?_) #[true, true, true, true, true, true, false, true, false, true, true, true, false, false, false, false, false, false, false, false, false, false, false, false, false] rfl rfl (any_of HT_.out (by kernel_rfl)) (fun _ _ _ h => h) (Or.inl ⟨by rfl, ?_⟩) ?_ ?_
          rotate_left
          ·intro w'
           go_simp
           with_reducible rfl
          rotate_left
          ·simp only [Act.put, List.setIfInBounds_toArray, List.set_cons_zero, List.set_cons_succ, i64_w, i32_w]
           rfl
          refine pure_ (i := 13) (N := some 121) (v := ?_) (a' := ?_) #[true, true, true, true, true, true, false, true, false, true, true, true, false, true, false, false, false, false, false, false, false, false, false, false, false] rfl rfl (any_of HT_.out (by kernel_rfl)) (fun _ _ _ h => h) (Or.inl ⟨by rfl, ?_⟩) ?_ ?_
          rotate_left
          ·intro w'
           go_simp
           with_reducible rfl
          rotate_left
          ·simp only [Act.put, List.setIfInBounds_toArray, List.set_cons_zero, List.set_cons_succ, i64_w, i32_w]
           rfl
          refine pure_ (i := 15) (N := some 123) (v := ?_) (a' := ?_) #[true, true, true, true, true, true, false, true, false, true, true, true, false, true, false, true, false, false, false, false, false, false, false, false, false] rfl rfl (any_of HT_.out (by kernel_rfl)) (fun _ _ _ h => h) (Or.inl ⟨by rfl, ?_⟩) ?_ ?_
          rotate_left
          ·intro w'
           go_simp
           with_reducible rfl
          rotate_left
          ·simp only [Act.put, List.setIfInBounds_toArray, List.set_cons_zero, List.set_cons_succ, i64_w, i32_w]
           rfl
          refine pure_ (i := 16) (N := some 124) (v := ?_) (a' := ?_) #[true, true, true, true, true, true, false, true, false, true, true, true, false, true, false, true, true, false, false, false, false, false, false, false, false] rfl rfl (any_of HT_.out (by kernel_rfl)) (fun _ _ _ h => h) (Or.inl ⟨by rfl, ?_⟩) ?_ ?_
          rotate_left
          ·intro w'
           go_simp
           with_reducible rfl
          rotate_left
          ·simp only [Act.put, List.setIfInBounds_toArray, List.set_cons_zero, List.set_cons_succ, i64_w, i32_w]
           rfl
          refine pure_ (i := 17) (N := some 125) (v := ?_) (a' := ?_) #[true, true, true, true, true, true, false, true, false, true, true, true, false, true, false, true, true, true, false, false, false, false, false, false, false] rfl rfl (any_of HT_.out (by kernel_rfl)) (fun _ _ _ h => h) (Or.inl ⟨by rfl, ?_⟩) ?_ ?_
          rotate_left
          ·intro w'
           go_simp
           with_reducible rfl
          rotate_left
          ·simp only [Act.put, List.setIfInBounds_toArray, List.set_cons_zero, List.set_cons_succ, i64_w, i32_w]
           rfl
          refine pure_ (i := 19) (N := some 127) (v := ?_) (a' := ?_) #[true, true, true, true, true, true, false, true, false, true, true, true, false, true, false, true, true, true, false, true, false, false, false, false, false] rfl rfl (any_of HT_.out (by kernel_rfl)) (fun _ _ _ h => h) (Or.inl ⟨by rfl, ?_⟩) ?_ ?_
          rotate_left
          ·intro w'
           go_simp
           with_reducible rfl
          rotate_left
          ·simp only [Act.put, List.setIfInBounds_toArray, List.set_cons_zero, List.set_cons_succ, i64_w, i32_w]
           rfl
          refine take_ (i := 6) (N := some 114) (v := ?_) (a' := ?_) #[true, true, true, true, true, true, true, true, false, true, true, true, false, true, false, true, true, true, false, true, false, false, false, false, false] rfl rfl (take_ofW HT_.out HW_.out (by kernel_rfl)) (fun _ _ _ h => h) (Or.inl ⟨by rfl, ?_⟩) hHeld ?_ ?_
          rotate_left
          ·rintro w' ⟨s0, s1, s2⟩
           go_simp
           with_reducible rfl
          rotate_left
          ·simp only [Act.put, List.setIfInBounds_toArray, List.set_cons_zero, List.set_cons_succ, i64_w, i32_w]
           rfl
          refine take_ (i := 12) (N := some 120) (v := ?_) (a' := ?_) #[true, true, true, true, true, true, true, true, false, true, true, true, true, true, false, true, true, true, false, true, false, false, false, false, false] rfl rfl (take_ofW HT_.out HW_.out (by kernel_rfl)) (fun _ _ _ h => h) (Or.inl ⟨by rfl, ?_⟩) hHeld ?_ ?_
          rotate_left
          ·rintro w' ⟨s0, s1, s2⟩
           go_simp
           with_reducible rfl
          rotate_left
          ·simp only [Act.put, List.setIfInBounds_toArray, List.set_cons_zero, List.set_cons_succ, i64_w, i32_w]
           rfl
          refine take_ (i := 18) (N := some 126) (v := ?_) (a' := ?_) #[true, true, true, true, true, true, true, true, false, true, true, true, true, true, false, true, true, true, true, true, false, false, false, false, false] rfl rfl (take_ofW HT_.out HW_.out (by kernel_rfl)) (fun _ _ _ h => h) (Or.inl ⟨by rfl, ?_⟩) hHeld ?_ ?_
          rotate_left
          ·rintro w' ⟨s0, s1, s2⟩
           go_simp
           with_reducible rfl
          rotate_left
          ·simp only [Act.put, List.setIfInBounds_toArray, List.set_cons_zero, List.set_cons_succ, i64_w, i32_w]
           rfl
          refine pure_ (i := 8) (N := some 116) (v := ?_) (a' := ?_) #[true, true, true, true, true, true, true, true, true, true, true, true, true, true, false, true, true, true, true, true, false, false, false, false, false] rfl rfl (any_of HT_.out (by kernel_rfl)) (fun _ _ _ h => h) (Or.inl ⟨by rfl, ?_⟩) ?_ ?_
          rotate_left
          ·intro w'
           go_simp
           with_reducible rfl
          rotate_left
          ·simp only [Act.put, List.setIfInBounds_toArray, List.set_cons_zero, List.set_cons_succ, i64_w, i32_w]
           rfl
          refine pure_ (i := 14) (N := some 122) (v := ?_) (a' := ?_) #[true, true, true, true, true, true, true, true, true, true, true, true, true, true, true, true, true, true, true, true, false, false, false, false, false] rfl rfl (any_of HT_.out (by kernel_rfl)) (fun _ _ _ h => h) (Or.inl ⟨by rfl, ?_⟩) ?_ ?_
          rotate_left
          ·intro w'
           go_simp
           with_reducible rfl
          rotate_left
          ·simp only [Act.put, List.setIfInBounds_toArray, List.set_cons_zero, List.set_cons_succ, i64_w, i32_w]
           rfl
          refine pure_ (i := 20) (N := some 128) (v := ?_) (a' := ?_) #[true, true, true, true, true, true, true, true, true, true, true, true, true, true, true, true, true, true, true, true, true, false, false, false, false] rfl rfl (any_of HT_.out (by kernel_rfl)) (fun _ _ _ h => h) (Or.inl ⟨by rfl, ?_⟩) ?_ ?_
          rotate_left
          ·intro w'
           go_simp
           with_reducible rfl
          rotate_left
          ·simp only [Act.put, List.setIfInBounds_toArray, List.set_cons_zero, List.set_cons_succ, i64_w, i32_w]
           rfl
          refine pure_ (i := 21) (N := some 129) (v := ?_) (a' := ?_) #[true, true, true, true, true, true, true, true, true, true, true, true, true, true, true, true, true, true, true, true, true, true, false, false, false] rfl rfl (any_of HT_.out (by kernel_rfl)) (fun _ _ _ h => h) (Or.inl ⟨by rfl, ?_⟩) ?_ ?_
          rotate_left
          ·intro w'
           go_simp
           with_reducible rfl
          rotate_left
          ·simp only [Act.put, List.setIfInBounds_toArray, List.set_cons_zero, List.set_cons_succ, i64_w, i32_w]
           rfl
          refine one_ (i := 22) (N := some 130) #[true, true, true, true, true, true, true, true, true, true, true, true, true, true, true, true, true, true, true, true, true, true, true, false, false] rfl rfl (one_of HT_.out (by kernel_rfl)) (by decide) (fun K hK => ?_)
          refine value_ (w1 := ?_) (v := ?_) (by rfl) rfl ?_ ?_
          rotate_left 2
          ·go_simp
           constructor
           ·rfl
           ·rfl
          refine hK.out _ _ ⟨(World.cell?_alloc_lt _ _ _ (World.block_lt_of_cell? _ _ hHeld.1)).trans hHeld.1, (World.cell?_alloc_lt _ _ _ (World.block_lt_of_cell? _ _ hHeld.2.1)).trans hHeld.2.1, (World.cell?_alloc_lt _ _ _ (World.block_lt_of_cell? _ _ hHeld.2.2)).trans hHeld.2.2⟩ (fun hHeld => ?_)
          clear hK K
          refine norm_ (a' := ?_) ?_ ?_
          rotate_left
          ·show Act.put _ (some 130) _ = _
           simp only [Act.put, List.setIfInBounds_toArray, List.set_cons_zero, List.set_cons_succ, i64_w, i32_w]
           rfl
          refine one_ (i := 23) (N := some 131) #[true, true, true, true, true, true, true, true, true, true, true, true, true, true, true, true, true, true, true, true, true, true, true, true, false] rfl rfl (one_of HT_.out (by kernel_rfl)) (by decide) (fun K hK => ?_)
          refine Kd.R_append_step k40 W1.heap.size (by rfl) (.tmp 108) (.tmp 130) 25 40 (.agg #[(.bool false), (.int .i64 0), (.int .i64 0), (.int .i64 0), (.int .i64 0), (.int .i64 0), (.int .i64 0)]) 56 rfl Try.underlying25 info40 rfl (by decide) (by omega) u17 x17_1 (⟨decide (t124 > 0), (⟨t125, wrap64 (t125 + t124)⟩ : S38), (⟨t126, wrap64 (t126 + t124)⟩ : S38), (⟨t127, wrap64 (t127 + t124)⟩ : S38)⟩ : S40) [.bool (decide (t124 > 0)), .int .i64 t125, .int .i64 (wrap64 (t125 + t124)), .int .i64 t126, .int .i64 (wrap64 (t126 + t124)), .int .i64 t127, .int .i64 (wrap64 (t127 + t124))] (fun _ => True) (fun _ => False) rfl rfl ?aP (fun _ hk => hk.elim) ?aF ?aO (Below.refl _ _) ?aS ?aL ?_
          (case aP => exact k40_mkM _ _ _ (⟨decide (t124 > 0), (⟨t125, wrap64 (t125 + t124)⟩ : S38), (⟨t126, wrap64 (t126 + t124)⟩ : S38), (⟨t127, wrap64 (t127 + t124)⟩ : S38)⟩ : S40))
          (case aF => exact (fun _ _ => trivial))
          (case aO => exact (by (with_reducible repeat (first | apply Kd.R_alloc | apply Kd.R_drewN | apply Kd.R_drew)); exact HO_17.out))
          (case aS => exact (keep_size (w := W1) (g := g) (row := none) (by repeat (first | (with_reducible first | exact HK.out | apply KeepBut.set_ | apply keep_drewN | apply keep_drew | apply keep_alloc) | exact HK.out))))
          (case aL => have := LMc35.out; omega)
          intro v141 w38 ho hb hg hat
          rw [← Ny140.out] at ho
          have n0_ := Aside0.mk (IsS63.grown (by repeat (first | (with_reducible first | exact HI5.out | apply IsS63.alloc | apply IsS63.drewN | apply IsS63.drew | apply IsS63.set_2 | apply IsS63.set_3 | apply IsS63.set_4) | exact HI5.out)) hg (IsS63.own_ne HI5.out HO_17.out (by decide)))
          have n1_ := Aside0.mk (below_weaken (by repeat (first | (with_reducible first | exact HB.out | apply below_alloc | apply pw_below_drewN | apply below_drew1 | refine below_set ?_ (IsS63.ge HI5.out)) | exact HB.out)) HL.out hb)
          have n2_ := Aside0.mk (KeepBut.trans (by repeat (first | (with_reducible first | exact HK.out | apply KeepBut.set_ | apply keep_drewN | apply keep_drew | apply keep_alloc) | exact HK.out)) (KeepBut.of_grown hg g) (Kd.R_base2 HO_17.out))
          have n3_ := Aside0.mk (ho)
          clear HI5
          clear HB
          clear HK
          clear HO_17
          have HI5 := n0_
          have HB := n1_
          have HK := n2_
          have HO142 := n3_
          clear n0_ n1_ n2_ n3_
          clear ho hb hg hat
          obtain ⟨ASz39_0, cSz39_0, ASz39_1, cSz39_1, HGz39, hgz39, HSz39_0, HSz39_1⟩ := HI5.out
          have hcz39_0 := cellS63_0 HGz39
          have hcz39_1 := cellS63_1 HGz39
          have hcz39_2 := cellS63_2 HGz39
          have hcz39_3 := cellS63_3 HGz39
          have hcz39_4 := cellS63_4 HGz39
          have hfz39_2 := blk_frozen HGz39 2
          have hfz39_3 := blk_frozen HGz39 3
          have hfz39_4 := blk_frozen HGz39 4
          clear HGz39 hgz39
          refine hK.out _ _ ⟨hcz39_2, hcz39_3, hcz39_4⟩ (fun hHeld => ?_)
          clear hK K
          refine norm_ (a' := ?_) ?_ ?_
          rotate_left
          ·show Act.put _ (some 131) _ = _
           simp only [Act.put, List.setIfInBounds_toArray, List.set_cons_zero, List.set_cons_succ, i64_w, i32_w]
           rfl
          refine pure_ (i := 24) (N := some 17) (v := ?_) (a' := ?_) #[true, true, true, true, true, true, true, true, true, true, true, true, true, true, true, true, true, true, true, true, true, true, true, true, true] rfl rfl (any_of HT_.out (by kernel_rfl)) (fun _ _ _ h => h) (Or.inl ⟨by rfl, ?_⟩) ?_ ?_
          rotate_left
          ·intro w'
           go_simp
           with_reducible rfl
          rotate_left
          ·simp only [Act.put, List.setIfInBounds_toArray, List.set_cons_zero, List.set_cons_succ, i64_w, i32_w]
           rfl
          refine done_ (done_of HT_.out (by kernel_rfl)) ?_
          go_wp2
          repeat (go_quiet (fail); try go_wp2)
          go_roundg kj6
          case measure => have := HK1.out; have := HJ6.out; omega
          case rel => exact ⟨(y140), (wrap64 (t125 + t124)), (wrap64 (t126 + t124)), (wrap64 (t127 + t124)), H', ⟨by have := HK1.out; have := HJ6.out; omega⟩, ⟨by (with_reducible repeat (first | apply Kd.R_alloc | apply Kd.R_drewN | apply Kd.R_drew)); exact Kd.R_mono (Kd.R_far (p := ⟨g, 4, none⟩) (Kd.R_far (p := ⟨g, 3, none⟩) (Kd.R_far (p := ⟨g, 2, none⟩) (IsS63.apart HI5.out HO142.out (by decide)) (fun _ hk => hk.2) (.int .i64 (wrap64 (t125 + t124)))) (fun _ hk => hk.2) (.int .i64 (wrap64 (t126 + t124)))) (fun _ hk => hk.2) (.int .i64 (wrap64 (t127 + t124)))) (fun _ hk => trivial)⟩, ⟨by repeat (first | (with_reducible first | exact HI5.out | apply IsS63.alloc | apply IsS63.drewN | apply IsS63.drew | apply IsS63.set_2 | apply IsS63.set_3 | apply IsS63.set_4) | exact HI5.out)⟩, ⟨by repeat (first | (with_reducible first | exact HK.out | apply KeepBut.set_ | apply keep_drewN | apply keep_drew | apply keep_alloc) | exact HK.out)⟩, ⟨by repeat (first | (with_reducible first | exact HB.out | apply below_alloc | apply pw_below_drewN | apply below_drew1 | refine below_set ?_ (IsS63.ge HI5.out)) | exact HB.out)⟩⟩
         ·rw [if_neg c35] at H
          exact absurd H (by simp)
       ·replace c13 := Bool.eq_false_iff.mpr c13
        subst c13
        have H1 : (some (x17_1, 0, x6002_1, x6003_1, x6004_1)) = some (q1, q2, q3, q4, q5) := by rw [if_neg (show ¬ (false = true) by decide)] at H; exact H
        clear H
        have H := H1
        clear H1
        simp only [Option.some.injEq, Prod.mk.injEq] at H
        obtain ⟨rfl, rfl, rfl, rfl, rfl⟩ := H
        go_wp2
        repeat (go_quiet (fail); try go_wp2)
        go_ret2
        exact ⟨_, by first | rfl | (simp [errW_none, errW_some] <;> rfl) | (simp [*, errW_none, errW_some] <;> rfl), Kd.R_lower (by (with_reducible repeat (first | apply Kd.R_alloc | apply Kd.R_drewN | apply Kd.R_drew)); exact HO_17.out) (Nat.le_trans HZ.out.size HL.out), below_step HZ.out (by repeat (first | (with_reducible first | exact HB.out | apply below_alloc | apply pw_below_drewN | apply below_drew1 | refine below_set ?_ (IsS63.ge HI5.out)) | exact HB.out))⟩

end Go.Proofs.Ytkliaoikljjeaaa.X

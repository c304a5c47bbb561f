-- Made by this session's programs (wip/prepatch.py, xprint.sh, assemble.py): the kit's printer over an input that this session patched, cut and joined with contracts proved by hand.
import Derived.Test.YtkliaoikljjeaaaXa
import Derived.Test.YtkliaoikljjeaaaXb
import Derived.Laws.CopyOwn
namespace Go.Proofs.Ytkliaoikljjeaaa.X
open Go.RowKit Go.Proofs.YtkliaoikljjeaaaW.PrintWords Go.Proofs.YtkliaoikljjeaaaW.PrintLast Go.Proofs.YtkliaoikljjeaaaW.PrintMore
attribute [local go_sem] max2_int min2_int max_two min_two max_three min_three max_four min_four   -- for this text's walks alone
set_option linter.unusedVariables false
set_option linter.unusedSimpArgs false

/-! ### slices_Repeat_int_int: function 29 -/
def slices_Repeat_int_int.f (l0 : List Int) (a1 : Int) : Option (List Int) := if l0 = [-1] ∧ 0 ≤ a1 ∧ a1 ≤ 1000 then some (List.replicate a1.toNat (-1)) else none
theorem wraps_u64' (n : Int) (h₀ : 0 ≤ n) (h₁ : n < 2 ^ 63) : IntKind.u64.wrap n = n := by
 simp [IntKind.wrap, IntKind.bits, IntKind.signed]
 omega
theorem u64_mask32 (x : Int) (h₀ : 0 ≤ x) (h₁ : x ≤ 1000) : Go.bits .and .u64 x 4294967295 = x := by
 have h := bits_mask .u64 63 (by decide) wraps_u64' 32 (by decide) x h₀ (by omega)
 have e : x % 4294967296 = x := by omega
 exact h.trans e
theorem mul_u64 (m : Nat) (h : m ≤ 1000) : bits_Mul.f 1 (m : Int) = some (0, (m : Int)) := by
 have h1 : Go.bits .and .u64 (1 : Int) 4294967295 = 1 := u64_mask32 1 (by omega) (by omega)
 have h2 : Go.bits .and .u64 (m : Int) 4294967295 = m := u64_mask32 m (by omega) (by omega)
 have d1 : (1 : Int) / 4294967296 = 0 := by decide
 have d2 : (m : Int) / 4294967296 = 0 := by omega
 have w0 : IntKind.u64.wrap 0 = 0 := wraps_u64' 0 (by omega) (by omega)
 have w1 : IntKind.u64.wrap (m : Int) = m := wraps_u64' m (by omega) (by omega)
 have a0 : Go.bits .and .u64 (0 : Int) 4294967295 = 0 := u64_mask32 0 (by omega) (by omega)
 unfold bits_Mul.f bits_Mul64.f
 simp only [h1, h2, d1, d2, Int.zero_mul, Int.mul_zero, Int.one_mul, Int.add_zero, Int.zero_add, w0, w1, a0, Option.bind_some]
 have d0 : (0 : Int) / 4294967296 = 0 := by decide
 simp only [d0, w0]
 rw [show (0 : Int) + 0 = 0 from rfl, w0]
/-- A row of m places of which the first k are -1. -/
def fillRow (k m : Nat) : List Value := List.replicate k (.int .i64 (-1)) ++ List.replicate (m - k) (.int .i64 0)
theorem fillRow_length {k m : Nat} (h : k ≤ m) : (fillRow k m).length = m := by simp [fillRow]; omega
theorem fillRow_splice {k c m : Nat} (h : k + c ≤ m) : splice (fillRow k m) k (List.replicate c (.int .i64 (-1))) = fillRow (k + c) m := by
 unfold splice fillRow
 rw [List.take_append_of_le_length (by simp), List.take_of_length_le (by simp), List.length_replicate, List.drop_append, List.drop_eq_nil_of_le (by simp), List.length_replicate, List.nil_append, List.drop_replicate, ← List.replicate_append_replicate, List.append_assoc]
 congr 3
 omega
theorem fillRow_get {k m j : Nat} {v : Value} (c : Nat) (hc : c ≤ k) (h : (List.replicate c (Value.int .i64 (-1)))[j]? = some v) : (fillRow k m)[j]? = some v := by
 obtain ⟨hj, hv⟩ := List.getElem?_eq_some_iff.1 h
 simp only [List.length_replicate] at hj
 rw [List.getElem_replicate] at hv
 subst hv
 unfold fillRow
 rw [List.getElem?_append_left (by simp; omega), List.getElem?_replicate, if_pos (by omega)]
theorem fillRow_full (m : Nat) : fillRow m m = List.replicate m (.int .i64 (-1)) := by simp [fillRow]
theorem fillRow_R {w : World} {g base m : Nat} (hg : w.heap[g]? = some (.cells (fillRow m m).toArray 3 (0, 0))) (hb : base ≤ g) (hm : m ≤ 1000) : Kd.R (Kd.int .i64) 3 w base (fun _ => True) (.slice (some ⟨g, 0, none⟩) m m) (List.replicate m (-1)) := by
 refine Kd.R_of_own ?_ (fun _ _ => trivial)
 rw [List.length_replicate]
 refine ⟨by simp [encs], .inr ⟨g, m, _, rfl, hb, hg, Nat.le_refl _, by unfold maxLen; omega, by simp [fillRow_length], ?_⟩⟩
 rw [fillRow_full]
 simp [encs]
theorem info3_size : (Try.prog.info? 3).map (fun i => i.size) = some 1 := by kernel_rfl
theorem repeat_src {W : World} {ad : Addr} (m : Nat) (h : W.cell? ad = some (.int .i64 (-1))) {j : Nat} {v : Value} (hj : (List.replicate (min 1 m) (Value.int .i64 (-1)))[j]? = some v) : W.cell? (ad.add j) = some v := by
 obtain ⟨h1, h2⟩ := List.getElem?_eq_some_iff.1 hj
 simp only [List.length_replicate] at h1
 rw [List.getElem_replicate] at h2
 subst h2
 obtain rfl : j = 0 := by omega
 simpa [Addr.add] using h
theorem repeat_first {W : World} {g : Nat} (m : Nat) (h : W.heap[g]? = some (.cells (splice (fillRow 0 m) 0 (List.replicate (min 1 m) (.int .i64 (-1)))).toArray 3 (0, 0))) : W.heap[g]? = some (.cells (fillRow (min 1 m) m).toArray 3 (0, 0)) := by
 rw [fillRow_splice (by omega), Nat.zero_add] at h
 exact h
theorem repeat_cell {W : World} {g k m : Nat} (h : W.heap[g]? = some (.cells (fillRow k m).toArray 3 (0, 0))) {j : Nat} {v : Value} (hj : (fillRow k m)[j]? = some v) : W.cell? ((⟨g, 0, none⟩ : Addr).add j) = some v := by
 rw [add_plain, blk_cell h]
 simpa using hj
set_option maxHeartbeats 4000000 in
set_option maxRecDepth 100000 in
theorem repeat_calls (ad : Addr) (c0 m : Nat) (w : World) (hm : m ≤ 1000) (hc0 : w.cell? ad = some (.int .i64 (-1))) :
  Calls Try.prog 29 #[.slice (some ad) 1 c0, .int .i64 (m : Int)] w fun e w' => ∃ v0_ : Value, e = .returned (v0_) ∧ Kd.R (Kd.int .i64) 3 w' w.heap.size (fun _ => True) v0_ (List.replicate m (-1)) ∧ Below w.heap.size w w' := by
 obtain ⟨i0, hi, hz0, hz1, hz2⟩ := info_parts info3
 have HM := Aside0.mk (mul_u64 m hm)
 have HC := Aside0.mk hc0
 have HI := Aside0.mk info3_size
 clear hc0
 have hmk : ∀ W : World, (Instr.makeSlice 57 (.int .i64 (m : Int)) (.int .i64 (m : Int))).run Try.prog W = .ok (.slice (some ⟨W.heap.size, 0, none⟩) m m) (W.alloc (.cells (fillRow 0 m).toArray 3)) := by
  intro W
  have hr := run_make (P := Try.prog) W 57 3 i0 (.int .i64 0) Try.underlying57 hi hz0 .i64 .i64 (m : Int) (m : Int) (by omega) (by omega) (by rw [hz2]; omega) (by omega)
  have e : madeCells (Value.int .i64 0).cells ((m : Int).toNat * i0.size) = (fillRow 0 m).toArray := by
   apply Array.ext'
   rw [hz1, Nat.mul_one, Int.toNat_natCast]
   simp [fillRow, Value.cells, toList_madeCells_one]
  rw [e, Int.toNat_natCast] at hr
  exact hr
 clear hi hz0 hz1 hz2
 have wu : IntKind.u64.wrap (m : Int) = m := wraps_u64' m (by omega) (by omega)
 have WU := Aside0.mk wu
 go_enter Try.func29, Try.ntmps29
 go_wp2_with (first | ((with_reducible refine gate_callee (f := 32) rfl ?_); refine goesL_ (some 18) rfl rfl Try.func32 (by kernel_rfl) rfl #[.int .u64 1, .int .u64 (m : Int)] rfl (by (try simp only [List.map_toArray, List.map_cons, List.map_nil]); first | done | rfl | (simp only [List.length_drop, List.length_take]; rfl)) ?_; (with_reducible refine (bits_Mul.calls 1 m 0 m _ HM.out).mono ?_); rintro e w' ⟨rfl, ⟨nd, rfl⟩⟩; refine ⟨_, rfl, ?_⟩) | ((with_reducible refine gate_builtin (b := .copy) (xs := #[.tmp 31, .tmp 32]) rfl ?_); refine wpList_copy_splice rfl (.tmp 31) (.tmp 32) 57 57 rfl 3 Try.underlying57 HI.out (some ⟨w.heap.size, 0, none⟩) (some ad) m m 1 c0 rfl rfl w.heap.size 0 (fillRow 0 m) 3 (blk_new (w.drewN nd) _) (List.replicate (min 1 m) (.int .i64 (-1))) ?hn ?hpos ?hfit ?h1 w.heap.size w (below_alloc (pw_below_drewN (Below.refl _ _) nd) _) (Nat.le_refl _) ?_; (case hn => simp [Nat.min_def]); (case hpos => intro _; exact ⟨rfl, ad, rfl, fun j v hj => repeat_src m (pw_cell_below (below_alloc (pw_below_drewN (Below.refl _ _) nd) _) HC.out) hj⟩); (case hfit => simp [fillRow]; omega); (case h1 => intro v hv; rw [(List.mem_replicate.1 hv).2]; rfl); intro w2 HG2 HB2; have HG := Aside0.mk (repeat_first m HG2.out); have HB := Aside0.mk HB2; clear HG2 HB2; rw [List.length_replicate]))
 go_loopw [8] (fun n wr => ∃ k : Nat, k ≤ m ∧ (1 ≤ m → 1 ≤ k) ∧ n = .int .i64 k ∧ Aside0 (wr.heap[w.heap.size]? = some (.cells (fillRow k m).toArray 3 (0, 0))) ∧ Aside0 (Below w.heap.size w wr)) (fun n _ => m - (intOf n).toNat)
 case atStart => exact ⟨min 1 m, by omega, by omega, by simp [goInt], HG, HB⟩
 case round =>
  clear HG HB
  obtain ⟨k, hk, hk1, rfl, HG, HB⟩ := hrel
  by_cases hlt : k < m
  ·have hk1' : 1 ≤ k := hk1 (by omega)
   obtain ⟨c, hcm, hc1, hck, hcm2⟩ : ∃ c : Nat, c = min k (m - k) ∧ 1 ≤ c ∧ c ≤ k ∧ k + c ≤ m := ⟨_, rfl, by omega, by omega, by omega⟩
   have HCM := Aside0.mk hcm
   clear hcm
   go_wp2
   refine start_ (n := 10) (S := fun _ => True) (ds := []) #[false, false, false, false, false, false, false, false, false, false] (by kernel_rfl) rfl rfl trivial (fun hHeld => ?_)
   have HG' : Aside0 (wr.drew.heap[w.heap.size]? = some (.cells (fillRow k m).toArray 3 (0, 0))) := ⟨HG.out⟩
   have HB' : Aside0 (Below w.heap.size w wr.drew) := ⟨below_drew1 HB.out⟩
   generalize wr.drew = w5 at HG' HB' ⊢
   clear HG HB hHeld
   refine pure_ (i := 0) (N := some 38) (v := ?_) (a' := ?_) #[true, false, false, false, false, false, false, false, false, false] rfl rfl (by kernel_rfl) (fun _ _ _ h => h) (Or.inl ⟨by rfl, ?_⟩) ?_ ?_
   rotate_left
   ·intro w'
    go_simp
    with_reducible rfl
   rotate_left
   ·simp only [Act.put, List.setIfInBounds_toArray, List.set_cons_zero, List.set_cons_succ, i64_w, i32_w]
    rfl
   refine pure_ (i := 1) (N := some 39) (v := ?_) (a' := ?_) #[true, true, false, false, false, false, false, false, false, false] rfl rfl (by kernel_rfl) (fun _ _ _ h => h) (Or.inl ⟨by rfl, ?_⟩) ?_ ?_
   rotate_left
   ·intro w'
    go_simp
    with_reducible rfl
   rotate_left
   ·simp only [Act.put, List.setIfInBounds_toArray, List.set_cons_zero, List.set_cons_succ, i64_w, i32_w]
    rfl
   refine pure_ (i := 2) (N := some 40) (v := ?_) (a' := ?_) #[true, true, true, false, false, false, false, false, false, false] rfl rfl (by kernel_rfl) (fun _ _ _ h => h) (Or.inl ⟨by rfl, ?_⟩) ?_ ?_
   rotate_left
   ·intro w'
    go_simp
    with_reducible rfl
   rotate_left
   ·simp only [Act.put, List.setIfInBounds_toArray, List.set_cons_zero, List.set_cons_succ, i64_w, i32_w]
    rfl
   refine pure_ (i := 3) (N := some 41) (v := ?_) (a' := ?_) #[true, true, true, true, false, false, false, false, false, false] rfl rfl (by kernel_rfl) (fun _ _ _ h => h) (Or.inl ⟨by rfl, ?_⟩) ?_ ?_
   rotate_left
   ·intro w'
    go_simp
    with_reducible rfl
   rotate_left
   ·simp only [Act.put, List.setIfInBounds_toArray, List.set_cons_zero, List.set_cons_succ, i64_w, i32_w]
    rfl
   refine pure_ (i := 4) (N := some 42) (v := ?_) (a' := ?_) #[true, true, true, true, true, false, false, false, false, false] rfl rfl (by kernel_rfl) (fun _ _ _ h => h) (Or.inl ⟨by rfl, ?_⟩) ?_ ?_
   rotate_left
   ·intro w'
    go_simp
    with_reducible rfl
   rotate_left
   ·simp only [Act.put, List.setIfInBounds_toArray, List.set_cons_zero, List.set_cons_succ, i64_w, i32_w]
    rfl
   refine pure_ (i := 5) (N := some 43) (v := ?_) (a' := ?_) #[true, true, true, true, true, true, false, false, false, false] rfl rfl (by kernel_rfl) (fun _ _ _ h => h) (Or.inl ⟨by rfl, ?_⟩) ?_ ?_
   rotate_left
   ·intro w'
    go_simp
    with_reducible rfl
   rotate_left
   ·simp only [Act.put, List.setIfInBounds_toArray, List.set_cons_zero, List.set_cons_succ, i64_w, i32_w]
    rfl
   refine pure_ (i := 6) (N := some 44) (v := ?_) (a' := ?_) #[true, true, true, true, true, true, true, false, false, false] rfl rfl (by kernel_rfl) (fun _ _ _ h => h) (Or.inl ⟨by rfl, ?_⟩) ?_ ?_
   rotate_left
   ·intro w'
    go_simp
    with_reducible rfl
   rotate_left
   ·simp only [Act.put, List.setIfInBounds_toArray, List.set_cons_zero, List.set_cons_succ, i64_w, i32_w]
    rfl
   refine one_ (i := 7) (N := some 45) #[true, true, true, true, true, true, true, true, false, false] rfl rfl (by kernel_rfl) (by decide) (fun K hK => ?_)
   refine step_copy_splice (by rfl) (.tmp 41) (.tmp 44) 57 57 rfl 3 Try.underlying57 HI.out (if m = k then some ⟨w.heap.size, 0, none⟩ else some ⟨w.heap.size, k, none⟩) (some ⟨w.heap.size, 0, none⟩) (m - k) (m - k) k m rfl rfl w.heap.size k (fillRow k m) 3 HG'.out (List.replicate c (.int .i64 (-1))) ?hn ?hpos ?hfit ?h1 w.heap.size w HB'.out (Nat.le_refl _) ?_
   case hn => have := HCM.out; simp [Nat.min_def]; omega
   case hpos => intro _; exact ⟨if_neg (by omega), _, rfl, fun j v hj => repeat_cell HG'.out (fillRow_get c hck hj)⟩
   case hfit => rw [fillRow_length hk]; simp; omega
   case h1 => intro v hv; rw [(List.mem_replicate.1 hv).2]; rfl
   intro w6 HG2 HB2
   have HG3 : Aside0 (w6.heap[w.heap.size]? = some (.cells (fillRow (k + c) m).toArray 3 (0, 0))) := ⟨by rw [← fillRow_splice hcm2]; exact HG2.out⟩
   have HB3 := Aside0.mk HB2
   clear HG2 HB2 HG' HB'
   rw [List.length_replicate]
   refine hK.out _ _ trivial (fun _ => ?_)
   clear hK K
   refine norm_ (a' := ?_) ?_ ?_
   rotate_left
   ·show Act.put _ (some 45) _ = _
    simp only [Act.put, goInt, List.setIfInBounds_toArray, List.set_cons_zero, List.set_cons_succ, i64_w, i32_w]
    rfl
   refine pure_ (i := 8) (N := some 46) (v := ?_) (a' := ?_) #[true, true, true, true, true, true, true, true, true, false] rfl rfl (by kernel_rfl) (fun _ _ _ h => h) (Or.inl ⟨by rfl, ?_⟩) ?_ ?_
   rotate_left
   ·intro w'
    go_simp
    with_reducible rfl
   rotate_left
   ·simp only [Act.put, List.setIfInBounds_toArray, List.set_cons_zero, List.set_cons_succ, i64_w, i32_w]
    rfl
   refine pure_ (i := 9) (N := some 8) (v := ?_) (a' := ?_) #[true, true, true, true, true, true, true, true, true, true] rfl rfl (by kernel_rfl) (fun _ _ _ h => h) (Or.inl ⟨by rfl, ?_⟩) ?_ ?_
   rotate_left
   ·intro w'
    go_simp
    with_reducible rfl
   rotate_left
   ·simp only [Act.put, List.setIfInBounds_toArray, List.set_cons_zero, List.set_cons_succ, i64_w, i32_w]
    rfl
   refine done_ (by kernel_rfl) ?_
   go_wp2
   have e : wrap64 ((k : Int) + (c : Int)) = ((k + c : Nat) : Int) := by unfold wrap64; omega
   go_roundw
   case rel => exact ⟨k + c, by omega, by omega, by rw [e], HG3, HB3⟩
   case measure => rw [e]; simp [intOf]; omega
  ·obtain rfl : k = m := by omega
   go_wp2
   go_ret
   exact ⟨_, rfl, fillRow_R HG.out (Nat.le_refl _) hm, HB.out⟩
theorem slices_Repeat_int_int.calls (A0 : Option Addr) (c0 : Nat) (l0 : List Int) (a1 : Int) (r : List Int) (w : World) (hr0 : Kd.C (Kd.int .i64) w A0 l0.length l0) (hc0 : l0.length ≤ c0) (h : slices_Repeat_int_int.f l0 a1 = some r) :
  Calls Try.prog 29 #[.slice A0 l0.length c0, .int .i64 a1] w fun e w' => ∃ v0_ : Value, e = .returned (v0_) ∧ Kd.R (Kd.int .i64) 3 w' w.heap.size (fun _ => True) v0_ r ∧ Below w.heap.size w w' := by
 unfold slices_Repeat_int_int.f at h
 by_cases hc : l0 = [-1] ∧ 0 ≤ a1 ∧ a1 ≤ 1000
 ·rw [if_pos hc] at h
  obtain rfl := Option.some.inj h
  obtain ⟨rfl, h0, h1⟩ := hc
  obtain ⟨m, rfl⟩ := Int.eq_ofNat_of_zero_le h0
  obtain ⟨ad, rfl, hcell⟩ := Kd.at_int hr0 0 (by omega) (by simp)
  exact repeat_calls ad c0 m w (by omega) (by simpa [Addr.add, rd] using hcell)
 ·rw [if_neg hc] at h
  cases h

end Go.Proofs.Ytkliaoikljjeaaa.X

-- Made by this session's programs (wip/prepatch.py, xprint.sh, assemble.py): the kit's printer over an input that this session patched, cut and joined with contracts proved by hand.
import Derived.Test.YtkliaoikljjeaaaXn
namespace Go.Proofs.Ytkliaoikljjeaaa.X
open Go.RowKit Go.Proofs.YtkliaoikljjeaaaW.PrintWords Go.Proofs.YtkliaoikljjeaaaW.PrintLast Go.Proofs.YtkliaoikljjeaaaW.PrintMore
attribute [local go_sem] max2_int min2_int max_two min_two max_three min_three max_four min_four   -- for this text's walks alone
set_option linter.unusedVariables false
set_option linter.unusedSimpArgs false

set_option maxHeartbeats 8000000 in
set_option maxRecDepth 100000 in
theorem tripartitelaw06_ChunkClasses.calls (k : Nat) (a0_0 : Bool) (a0_1 : Int) (a0_2 : Int) (a0_3 : Int) (a0_4 : Int) (a0_5 : Int) (a0_6 : Int) (A1_0 : Option Addr) (c1_0 : Nat) (l1_0 : List ByteArray) (A1_1 : Option Addr) (c1_1 : Nat) (l1_1 : List ByteArray) (A1_2 : Option Addr) (c1_2 : Nat) (l1_2 : List ByteArray) (a2_0 : Int) (a2_1 : Int) (r : Bool) (w : World) (hr1_0 : Kd.C Kd.string w A1_0 l1_0.length l1_0) (hc1_0 : l1_0.length ≤ c1_0) (hr1_1 : Kd.C Kd.string w A1_1 l1_1.length l1_1) (hc1_1 : l1_1.length ≤ c1_1) (hr1_2 : Kd.C Kd.string w A1_2 l1_2.length l1_2) (hc1_2 : l1_2.length ≤ c1_2) (h : tripartitelaw06_ChunkClasses.f k a0_0 a0_1 a0_2 a0_3 a0_4 a0_5 a0_6 l1_0 l1_1 l1_2 a2_0 a2_1 = some r) :
  Calls Try.prog 4 #[.agg #[.bool a0_0, .int .i64 a0_1, .int .i64 a0_2, .int .i64 a0_3, .int .i64 a0_4, .int .i64 a0_5, .int .i64 a0_6], .agg #[.slice A1_0 l1_0.length c1_0, .slice A1_1 l1_1.length c1_1, .slice A1_2 l1_2.length c1_2], .agg #[.int .i64 a2_0, .int .i64 a2_1]] w fun e w' => e = .returned (.bool r) ∧ Below w.heap.size w w' := by
 have hu43 := Try.underlying43
 have hu49 := Try.underlying49
 have hu41 := Try.underlying41
 have hu40 := Try.underlying40
 have hu38 := Try.underlying38
 have HR1_0 := Aside0.mk hr1_0
 have HC1_0 := Aside0.mk hc1_0
 clear hr1_0 hc1_0
 have HR1_1 := Aside0.mk hr1_1
 have HC1_1 := Aside0.mk hc1_1
 clear hr1_1 hc1_1
 have HR1_2 := Aside0.mk hr1_2
 have HC1_2 := Aside0.mk hc1_2
 clear hr1_2 hc1_2
 have HB := Aside0.mk (Below.refl w.heap.size w)
 have H : (if 0 ≤ (mn (l1_0.length : Int) 60) then (if (mn (l1_0.length : Int) 60) ≤ (l1_0.length : Int) then (if 0 ≤ (mn (l1_1.length : Int) 60) then (if (mn (l1_1.length : Int) 60) ≤ (l1_1.length : Int) then (if 0 ≤ (mn (l1_2.length : Int) 60) then (if (mn (l1_2.length : Int) 60) ≤ (l1_2.length : Int) then ((tripartitelaw06_To.f a0_0 a0_1 a0_2 a0_3 a0_4 a0_5 a0_6).bind fun bt338 => ((tripartitelaw06_told.f k).bind fun t347 => (if t347 = true then ((chunk_Span_Cut.f a2_0 a2_1 (l1_0.take ((mn (l1_0.length : Int) 60) : Int).toNat)).bind fun t348 => ((tripartiteref06_Cut.f a2_0 a2_1 (l1_0.take ((mn (l1_0.length : Int) 60) : Int).toNat)).bind fun t351 => ((tripartiteref01_Same.f k t348 t351).bind fun t354 => (if t354 = true then (if a2_0 ≥ 0 then (if a2_1 ≥ a2_0 then ((chunk_Span_Len.f a2_0 a2_1).bind fun t355 => (if t355 = (wrap64 (a2_1 - a2_0)) then (if a2_1 ≤ a2_0 then ((chunk_Span_Len.f a2_0 a2_1).bind fun t356 => (tripartitelaw06_ChunkClasses.j0 k (l1_0.take ((mn (l1_0.length : Int) 60) : Int).toNat) (l1_1.take ((mn (l1_1.length : Int) 60) : Int).toNat) (l1_2.take ((mn (l1_2.length : Int) 60) : Int).toNat) (t356 != 0) a0_0 a0_1 a0_2 a0_3 a0_4 a0_5 a0_6 bt338.1 bt338.2.1 bt338.2.2.1 bt338.2.2.2.1 bt338.2.2.2.2.1 bt338.2.2.2.2.2.1 bt338.2.2.2.2.2.2)) else (tripartitelaw06_ChunkClasses.j0 k (l1_0.take ((mn (l1_0.length : Int) 60) : Int).toNat) (l1_1.take ((mn (l1_1.length : Int) 60) : Int).toNat) (l1_2.take ((mn (l1_2.length : Int) 60) : Int).toNat) false a0_0 a0_1 a0_2 a0_3 a0_4 a0_5 a0_6 bt338.1 bt338.2.1 bt338.2.2.1 bt338.2.2.2.1 bt338.2.2.2.2.1 bt338.2.2.2.2.2.1 bt338.2.2.2.2.2.2)) else (none))) else (if a2_1 ≤ a2_0 then ((chunk_Span_Len.f a2_0 a2_1).bind fun t357 => (tripartitelaw06_ChunkClasses.j0 k (l1_0.take ((mn (l1_0.length : Int) 60) : Int).toNat) (l1_1.take ((mn (l1_1.length : Int) 60) : Int).toNat) (l1_2.take ((mn (l1_2.length : Int) 60) : Int).toNat) (t357 != 0) a0_0 a0_1 a0_2 a0_3 a0_4 a0_5 a0_6 bt338.1 bt338.2.1 bt338.2.2.1 bt338.2.2.2.1 bt338.2.2.2.2.1 bt338.2.2.2.2.2.1 bt338.2.2.2.2.2.2)) else (tripartitelaw06_ChunkClasses.j0 k (l1_0.take ((mn (l1_0.length : Int) 60) : Int).toNat) (l1_1.take ((mn (l1_1.length : Int) 60) : Int).toNat) (l1_2.take ((mn (l1_2.length : Int) 60) : Int).toNat) false a0_0 a0_1 a0_2 a0_3 a0_4 a0_5 a0_6 bt338.1 bt338.2.1 bt338.2.2.1 bt338.2.2.2.1 bt338.2.2.2.2.1 bt338.2.2.2.2.2.1 bt338.2.2.2.2.2.2))) else (if a2_1 ≤ a2_0 then ((chunk_Span_Len.f a2_0 a2_1).bind fun t358 => (tripartitelaw06_ChunkClasses.j0 k (l1_0.take ((mn (l1_0.length : Int) 60) : Int).toNat) (l1_1.take ((mn (l1_1.length : Int) 60) : Int).toNat) (l1_2.take ((mn (l1_2.length : Int) 60) : Int).toNat) (t358 != 0) a0_0 a0_1 a0_2 a0_3 a0_4 a0_5 a0_6 bt338.1 bt338.2.1 bt338.2.2.1 bt338.2.2.2.1 bt338.2.2.2.2.1 bt338.2.2.2.2.2.1 bt338.2.2.2.2.2.2)) else (tripartitelaw06_ChunkClasses.j0 k (l1_0.take ((mn (l1_0.length : Int) 60) : Int).toNat) (l1_1.take ((mn (l1_1.length : Int) 60) : Int).toNat) (l1_2.take ((mn (l1_2.length : Int) 60) : Int).toNat) false a0_0 a0_1 a0_2 a0_3 a0_4 a0_5 a0_6 bt338.1 bt338.2.1 bt338.2.2.1 bt338.2.2.2.1 bt338.2.2.2.2.1 bt338.2.2.2.2.2.1 bt338.2.2.2.2.2.2))) else (none))))) else (none)))) else (none)) else (none)) else (none)) else (none)) else (none)) else (none)) = some r := h
 clear h
 obtain ⟨ji4, hji4⟩ : ∃ j_ : Int, (mn (l1_0.length : Int) 60) = j_ := ⟨_, rfl⟩
 replace H : (if 0 ≤ (ji4) then (if (ji4) ≤ (l1_0.length : Int) then (if 0 ≤ (mn (l1_1.length : Int) 60) then (if (mn (l1_1.length : Int) 60) ≤ (l1_1.length : Int) then (if 0 ≤ (mn (l1_2.length : Int) 60) then (if (mn (l1_2.length : Int) 60) ≤ (l1_2.length : Int) then ((tripartitelaw06_To.f a0_0 a0_1 a0_2 a0_3 a0_4 a0_5 a0_6).bind fun bt338 => ((tripartitelaw06_told.f k).bind fun t347 => (if t347 = true then ((chunk_Span_Cut.f a2_0 a2_1 (l1_0.take ((ji4) : Int).toNat)).bind fun t348 => ((tripartiteref06_Cut.f a2_0 a2_1 (l1_0.take ((ji4) : Int).toNat)).bind fun t351 => ((tripartiteref01_Same.f k t348 t351).bind fun t354 => (if t354 = true then (if a2_0 ≥ 0 then (if a2_1 ≥ a2_0 then ((chunk_Span_Len.f a2_0 a2_1).bind fun t355 => (if t355 = (wrap64 (a2_1 - a2_0)) then (if a2_1 ≤ a2_0 then ((chunk_Span_Len.f a2_0 a2_1).bind fun t356 => (tripartitelaw06_ChunkClasses.j0 k (l1_0.take ((ji4) : Int).toNat) (l1_1.take ((mn (l1_1.length : Int) 60) : Int).toNat) (l1_2.take ((mn (l1_2.length : Int) 60) : Int).toNat) (t356 != 0) a0_0 a0_1 a0_2 a0_3 a0_4 a0_5 a0_6 bt338.1 bt338.2.1 bt338.2.2.1 bt338.2.2.2.1 bt338.2.2.2.2.1 bt338.2.2.2.2.2.1 bt338.2.2.2.2.2.2)) else (tripartitelaw06_ChunkClasses.j0 k (l1_0.take ((ji4) : Int).toNat) (l1_1.take ((mn (l1_1.length : Int) 60) : Int).toNat) (l1_2.take ((mn (l1_2.length : Int) 60) : Int).toNat) false a0_0 a0_1 a0_2 a0_3 a0_4 a0_5 a0_6 bt338.1 bt338.2.1 bt338.2.2.1 bt338.2.2.2.1 bt338.2.2.2.2.1 bt338.2.2.2.2.2.1 bt338.2.2.2.2.2.2)) else (none))) else (if a2_1 ≤ a2_0 then ((chunk_Span_Len.f a2_0 a2_1).bind fun t357 => (tripartitelaw06_ChunkClasses.j0 k (l1_0.take ((ji4) : Int).toNat) (l1_1.take ((mn (l1_1.length : Int) 60) : Int).toNat) (l1_2.take ((mn (l1_2.length : Int) 60) : Int).toNat) (t357 != 0) a0_0 a0_1 a0_2 a0_3 a0_4 a0_5 a0_6 bt338.1 bt338.2.1 bt338.2.2.1 bt338.2.2.2.1 bt338.2.2.2.2.1 bt338.2.2.2.2.2.1 bt338.2.2.2.2.2.2)) else (tripartitelaw06_ChunkClasses.j0 k (l1_0.take ((ji4) : Int).toNat) (l1_1.take ((mn (l1_1.length : Int) 60) : Int).toNat) (l1_2.take ((mn (l1_2.length : Int) 60) : Int).toNat) false a0_0 a0_1 a0_2 a0_3 a0_4 a0_5 a0_6 bt338.1 bt338.2.1 bt338.2.2.1 bt338.2.2.2.1 bt338.2.2.2.2.1 bt338.2.2.2.2.2.1 bt338.2.2.2.2.2.2))) else (if a2_1 ≤ a2_0 then ((chunk_Span_Len.f a2_0 a2_1).bind fun t358 => (tripartitelaw06_ChunkClasses.j0 k (l1_0.take ((ji4) : Int).toNat) (l1_1.take ((mn (l1_1.length : Int) 60) : Int).toNat) (l1_2.take ((mn (l1_2.length : Int) 60) : Int).toNat) (t358 != 0) a0_0 a0_1 a0_2 a0_3 a0_4 a0_5 a0_6 bt338.1 bt338.2.1 bt338.2.2.1 bt338.2.2.2.1 bt338.2.2.2.2.1 bt338.2.2.2.2.2.1 bt338.2.2.2.2.2.2)) else (tripartitelaw06_ChunkClasses.j0 k (l1_0.take ((ji4) : Int).toNat) (l1_1.take ((mn (l1_1.length : Int) 60) : Int).toNat) (l1_2.take ((mn (l1_2.length : Int) 60) : Int).toNat) false a0_0 a0_1 a0_2 a0_3 a0_4 a0_5 a0_6 bt338.1 bt338.2.1 bt338.2.2.1 bt338.2.2.2.1 bt338.2.2.2.2.1 bt338.2.2.2.2.2.1 bt338.2.2.2.2.2.2))) else (none))))) else (none)))) else (none)) else (none)) else (none)) else (none)) else (none)) else (none)) = some r := by first | (rw [hji4] at H; exact H) | (simp only [hji4] at H ⊢; exact H)
 (try (have hji4h : ji4 ≤ 60 := by (rw [← hji4]; unfold mn; (repeat' split) <;> omega)))
 (try (have hji4g : ji4 ≤ 64 := by omega))
 (try (have hji4l : 0 ≤ ji4 := by (rw [← hji4]; unfold mn; (repeat' split) <;> omega)))
 (try (have hji4m : 0 ≤ ji4 := by omega))
 have hji4_ : (if 60 < (l1_0.length : Int) then 60 else (l1_0.length : Int)) = ji4 := hji4
 by_cases c5 : 0 ≤ (ji4)
 ·rw [if_pos c5] at H
  have c5b0 := eq_true c5
  have c5b1 : decide (0 ≤ (ji4)) = true := decide_eq_true c5
  clear c5
  by_cases c6 : (ji4) ≤ (l1_0.length : Int)
  ·rw [if_pos c6] at H
   have c6b0 := eq_true c6
   have c6b1 : decide ((ji4) ≤ (l1_0.length : Int)) = true := decide_eq_true c6
   clear c6
   obtain ⟨ji7, hji7⟩ : ∃ j_ : Int, (mn (l1_1.length : Int) 60) = j_ := ⟨_, rfl⟩
   replace H : (if 0 ≤ (ji7) then (if (ji7) ≤ (l1_1.length : Int) then (if 0 ≤ (mn (l1_2.length : Int) 60) then (if (mn (l1_2.length : Int) 60) ≤ (l1_2.length : Int) then ((tripartitelaw06_To.f a0_0 a0_1 a0_2 a0_3 a0_4 a0_5 a0_6).bind fun bt338 => ((tripartitelaw06_told.f k).bind fun t347 => (if t347 = true then ((chunk_Span_Cut.f a2_0 a2_1 (l1_0.take ((ji4) : Int).toNat)).bind fun t348 => ((tripartiteref06_Cut.f a2_0 a2_1 (l1_0.take ((ji4) : Int).toNat)).bind fun t351 => ((tripartiteref01_Same.f k t348 t351).bind fun t354 => (if t354 = true then (if a2_0 ≥ 0 then (if a2_1 ≥ a2_0 then ((chunk_Span_Len.f a2_0 a2_1).bind fun t355 => (if t355 = (wrap64 (a2_1 - a2_0)) then (if a2_1 ≤ a2_0 then ((chunk_Span_Len.f a2_0 a2_1).bind fun t356 => (tripartitelaw06_ChunkClasses.j0 k (l1_0.take ((ji4) : Int).toNat) (l1_1.take ((ji7) : Int).toNat) (l1_2.take ((mn (l1_2.length : Int) 60) : Int).toNat) (t356 != 0) a0_0 a0_1 a0_2 a0_3 a0_4 a0_5 a0_6 bt338.1 bt338.2.1 bt338.2.2.1 bt338.2.2.2.1 bt338.2.2.2.2.1 bt338.2.2.2.2.2.1 bt338.2.2.2.2.2.2)) else (tripartitelaw06_ChunkClasses.j0 k (l1_0.take ((ji4) : Int).toNat) (l1_1.take ((ji7) : Int).toNat) (l1_2.take ((mn (l1_2.length : Int) 60) : Int).toNat) false a0_0 a0_1 a0_2 a0_3 a0_4 a0_5 a0_6 bt338.1 bt338.2.1 bt338.2.2.1 bt338.2.2.2.1 bt338.2.2.2.2.1 bt338.2.2.2.2.2.1 bt338.2.2.2.2.2.2)) else (none))) else (if a2_1 ≤ a2_0 then ((chunk_Span_Len.f a2_0 a2_1).bind fun t357 => (tripartitelaw06_ChunkClasses.j0 k (l1_0.take ((ji4) : Int).toNat) (l1_1.take ((ji7) : Int).toNat) (l1_2.take ((mn (l1_2.length : Int) 60) : Int).toNat) (t357 != 0) a0_0 a0_1 a0_2 a0_3 a0_4 a0_5 a0_6 bt338.1 bt338.2.1 bt338.2.2.1 bt338.2.2.2.1 bt338.2.2.2.2.1 bt338.2.2.2.2.2.1 bt338.2.2.2.2.2.2)) else (tripartitelaw06_ChunkClasses.j0 k (l1_0.take ((ji4) : Int).toNat) (l1_1.take ((ji7) : Int).toNat) (l1_2.take ((mn (l1_2.length : Int) 60) : Int).toNat) false a0_0 a0_1 a0_2 a0_3 a0_4 a0_5 a0_6 bt338.1 bt338.2.1 bt338.2.2.1 bt338.2.2.2.1 bt338.2.2.2.2.1 bt338.2.2.2.2.2.1 bt338.2.2.2.2.2.2))) else (if a2_1 ≤ a2_0 then ((chunk_Span_Len.f a2_0 a2_1).bind fun t358 => (tripartitelaw06_ChunkClasses.j0 k (l1_0.take ((ji4) : Int).toNat) (l1_1.take ((ji7) : Int).toNat) (l1_2.take ((mn (l1_2.length : Int) 60) : Int).toNat) (t358 != 0) a0_0 a0_1 a0_2 a0_3 a0_4 a0_5 a0_6 bt338.1 bt338.2.1 bt338.2.2.1 bt338.2.2.2.1 bt338.2.2.2.2.1 bt338.2.2.2.2.2.1 bt338.2.2.2.2.2.2)) else (tripartitelaw06_ChunkClasses.j0 k (l1_0.take ((ji4) : Int).toNat) (l1_1.take ((ji7) : Int).toNat) (l1_2.take ((mn (l1_2.length : Int) 60) : Int).toNat) false a0_0 a0_1 a0_2 a0_3 a0_4 a0_5 a0_6 bt338.1 bt338.2.1 bt338.2.2.1 bt338.2.2.2.1 bt338.2.2.2.2.1 bt338.2.2.2.2.2.1 bt338.2.2.2.2.2.2))) else (none))))) else (none)))) else (none)) else (none)) else (none)) else (none)) = some r := by first | (rw [hji7] at H; exact H) | (simp only [hji7] at H ⊢; exact H)
   (try (have hji7h : ji7 ≤ 60 := by (rw [← hji7]; unfold mn; (repeat' split) <;> omega)))
   (try (have hji7g : ji7 ≤ 64 := by omega))
   (try (have hji7l : 0 ≤ ji7 := by (rw [← hji7]; unfold mn; (repeat' split) <;> omega)))
   (try (have hji7m : 0 ≤ ji7 := by omega))
   have hji7_ : (if 60 < (l1_1.length : Int) then 60 else (l1_1.length : Int)) = ji7 := hji7
   by_cases c8 : 0 ≤ (ji7)
   ·rw [if_pos c8] at H
    have c8b0 := eq_true c8
    have c8b1 : decide (0 ≤ (ji7)) = true := decide_eq_true c8
    clear c8
    by_cases c9 : (ji7) ≤ (l1_1.length : Int)
    ·rw [if_pos c9] at H
     have c9b0 := eq_true c9
     have c9b1 : decide ((ji7) ≤ (l1_1.length : Int)) = true := decide_eq_true c9
     clear c9
     obtain ⟨ji10, hji10⟩ : ∃ j_ : Int, (mn (l1_2.length : Int) 60) = j_ := ⟨_, rfl⟩
     replace H : (if 0 ≤ (ji10) then (if (ji10) ≤ (l1_2.length : Int) then ((tripartitelaw06_To.f a0_0 a0_1 a0_2 a0_3 a0_4 a0_5 a0_6).bind fun bt338 => ((tripartitelaw06_told.f k).bind fun t347 => (if t347 = true then ((chunk_Span_Cut.f a2_0 a2_1 (l1_0.take ((ji4) : Int).toNat)).bind fun t348 => ((tripartiteref06_Cut.f a2_0 a2_1 (l1_0.take ((ji4) : Int).toNat)).bind fun t351 => ((tripartiteref01_Same.f k t348 t351).bind fun t354 => (if t354 = true then (if a2_0 ≥ 0 then (if a2_1 ≥ a2_0 then ((chunk_Span_Len.f a2_0 a2_1).bind fun t355 => (if t355 = (wrap64 (a2_1 - a2_0)) then (if a2_1 ≤ a2_0 then ((chunk_Span_Len.f a2_0 a2_1).bind fun t356 => (tripartitelaw06_ChunkClasses.j0 k (l1_0.take ((ji4) : Int).toNat) (l1_1.take ((ji7) : Int).toNat) (l1_2.take ((ji10) : Int).toNat) (t356 != 0) a0_0 a0_1 a0_2 a0_3 a0_4 a0_5 a0_6 bt338.1 bt338.2.1 bt338.2.2.1 bt338.2.2.2.1 bt338.2.2.2.2.1 bt338.2.2.2.2.2.1 bt338.2.2.2.2.2.2)) else (tripartitelaw06_ChunkClasses.j0 k (l1_0.take ((ji4) : Int).toNat) (l1_1.take ((ji7) : Int).toNat) (l1_2.take ((ji10) : Int).toNat) false a0_0 a0_1 a0_2 a0_3 a0_4 a0_5 a0_6 bt338.1 bt338.2.1 bt338.2.2.1 bt338.2.2.2.1 bt338.2.2.2.2.1 bt338.2.2.2.2.2.1 bt338.2.2.2.2.2.2)) else (none))) else (if a2_1 ≤ a2_0 then ((chunk_Span_Len.f a2_0 a2_1).bind fun t357 => (tripartitelaw06_ChunkClasses.j0 k (l1_0.take ((ji4) : Int).toNat) (l1_1.take ((ji7) : Int).toNat) (l1_2.take ((ji10) : Int).toNat) (t357 != 0) a0_0 a0_1 a0_2 a0_3 a0_4 a0_5 a0_6 bt338.1 bt338.2.1 bt338.2.2.1 bt338.2.2.2.1 bt338.2.2.2.2.1 bt338.2.2.2.2.2.1 bt338.2.2.2.2.2.2)) else (tripartitelaw06_ChunkClasses.j0 k (l1_0.take ((ji4) : Int).toNat) (l1_1.take ((ji7) : Int).toNat) (l1_2.take ((ji10) : Int).toNat) false a0_0 a0_1 a0_2 a0_3 a0_4 a0_5 a0_6 bt338.1 bt338.2.1 bt338.2.2.1 bt338.2.2.2.1 bt338.2.2.2.2.1 bt338.2.2.2.2.2.1 bt338.2.2.2.2.2.2))) else (if a2_1 ≤ a2_0 then ((chunk_Span_Len.f a2_0 a2_1).bind fun t358 => (tripartitelaw06_ChunkClasses.j0 k (l1_0.take ((ji4) : Int).toNat) (l1_1.take ((ji7) : Int).toNat) (l1_2.take ((ji10) : Int).toNat) (t358 != 0) a0_0 a0_1 a0_2 a0_3 a0_4 a0_5 a0_6 bt338.1 bt338.2.1 bt338.2.2.1 bt338.2.2.2.1 bt338.2.2.2.2.1 bt338.2.2.2.2.2.1 bt338.2.2.2.2.2.2)) else (tripartitelaw06_ChunkClasses.j0 k (l1_0.take ((ji4) : Int).toNat) (l1_1.take ((ji7) : Int).toNat) (l1_2.take ((ji10) : Int).toNat) false a0_0 a0_1 a0_2 a0_3 a0_4 a0_5 a0_6 bt338.1 bt338.2.1 bt338.2.2.1 bt338.2.2.2.1 bt338.2.2.2.2.1 bt338.2.2.2.2.2.1 bt338.2.2.2.2.2.2))) else (none))))) else (none)))) else (none)) else (none)) = some r := by first | (rw [hji10] at H; exact H) | (simp only [hji10] at H ⊢; exact H)
     (try (have hji10h : ji10 ≤ 60 := by (rw [← hji10]; unfold mn; (repeat' split) <;> omega)))
     (try (have hji10g : ji10 ≤ 64 := by omega))
     (try (have hji10l : 0 ≤ ji10 := by (rw [← hji10]; unfold mn; (repeat' split) <;> omega)))
     (try (have hji10m : 0 ≤ ji10 := by omega))
     have hji10_ : (if 60 < (l1_2.length : Int) then 60 else (l1_2.length : Int)) = ji10 := hji10
     by_cases c11 : 0 ≤ (ji10)
     ·rw [if_pos c11] at H
      have c11b0 := eq_true c11
      have c11b1 : decide (0 ≤ (ji10)) = true := decide_eq_true c11
      clear c11
      by_cases c12 : (ji10) ≤ (l1_2.length : Int)
      ·rw [if_pos c12] at H
       have c12b0 := eq_true c12
       have c12b1 : decide ((ji10) ≤ (l1_2.length : Int)) = true := decide_eq_true c12
       clear c12
       replace H := Option.bind_eq_some_iff.mp H
       obtain ⟨⟨t338, t339, t340, t341, t342, t343, t344⟩, A130, H⟩ := H
       replace H : ((tripartitelaw06_told.f k).bind fun t347 => (if t347 = true then ((chunk_Span_Cut.f a2_0 a2_1 (l1_0.take ((ji4) : Int).toNat)).bind fun t348 => ((tripartiteref06_Cut.f a2_0 a2_1 (l1_0.take ((ji4) : Int).toNat)).bind fun t351 => ((tripartiteref01_Same.f k t348 t351).bind fun t354 => (if t354 = true then (if a2_0 ≥ 0 then (if a2_1 ≥ a2_0 then ((chunk_Span_Len.f a2_0 a2_1).bind fun t355 => (if t355 = (wrap64 (a2_1 - a2_0)) then (if a2_1 ≤ a2_0 then ((chunk_Span_Len.f a2_0 a2_1).bind fun t356 => (tripartitelaw06_ChunkClasses.j0 k (l1_0.take ((ji4) : Int).toNat) (l1_1.take ((ji7) : Int).toNat) (l1_2.take ((ji10) : Int).toNat) (t356 != 0) a0_0 a0_1 a0_2 a0_3 a0_4 a0_5 a0_6 t338 t339 t340 t341 t342 t343 t344)) else (tripartitelaw06_ChunkClasses.j0 k (l1_0.take ((ji4) : Int).toNat) (l1_1.take ((ji7) : Int).toNat) (l1_2.take ((ji10) : Int).toNat) false a0_0 a0_1 a0_2 a0_3 a0_4 a0_5 a0_6 t338 t339 t340 t341 t342 t343 t344)) else (none))) else (if a2_1 ≤ a2_0 then ((chunk_Span_Len.f a2_0 a2_1).bind fun t357 => (tripartitelaw06_ChunkClasses.j0 k (l1_0.take ((ji4) : Int).toNat) (l1_1.take ((ji7) : Int).toNat) (l1_2.take ((ji10) : Int).toNat) (t357 != 0) a0_0 a0_1 a0_2 a0_3 a0_4 a0_5 a0_6 t338 t339 t340 t341 t342 t343 t344)) else (tripartitelaw06_ChunkClasses.j0 k (l1_0.take ((ji4) : Int).toNat) (l1_1.take ((ji7) : Int).toNat) (l1_2.take ((ji10) : Int).toNat) false a0_0 a0_1 a0_2 a0_3 a0_4 a0_5 a0_6 t338 t339 t340 t341 t342 t343 t344))) else (if a2_1 ≤ a2_0 then ((chunk_Span_Len.f a2_0 a2_1).bind fun t358 => (tripartitelaw06_ChunkClasses.j0 k (l1_0.take ((ji4) : Int).toNat) (l1_1.take ((ji7) : Int).toNat) (l1_2.take ((ji10) : Int).toNat) (t358 != 0) a0_0 a0_1 a0_2 a0_3 a0_4 a0_5 a0_6 t338 t339 t340 t341 t342 t343 t344)) else (tripartitelaw06_ChunkClasses.j0 k (l1_0.take ((ji4) : Int).toNat) (l1_1.take ((ji7) : Int).toNat) (l1_2.take ((ji10) : Int).toNat) false a0_0 a0_1 a0_2 a0_3 a0_4 a0_5 a0_6 t338 t339 t340 t341 t342 t343 t344))) else (none))))) else (none))) = some r := H
       have A13 := Aside0.mk A130
       clear A130
       replace H := Option.bind_eq_some_iff.mp H
       obtain ⟨t347, A140, H⟩ := H
       try dsimp only at H
       have A14 := Aside0.mk A140
       clear A140
       by_cases c15 : t347 = true
       ·subst c15
        have H1 : ((chunk_Span_Cut.f a2_0 a2_1 (l1_0.take ((ji4) : Int).toNat)).bind fun t348 => ((tripartiteref06_Cut.f a2_0 a2_1 (l1_0.take ((ji4) : Int).toNat)).bind fun t351 => ((tripartiteref01_Same.f k t348 t351).bind fun t354 => (if t354 = true then (if a2_0 ≥ 0 then (if a2_1 ≥ a2_0 then ((chunk_Span_Len.f a2_0 a2_1).bind fun t355 => (if t355 = (wrap64 (a2_1 - a2_0)) then (if a2_1 ≤ a2_0 then ((chunk_Span_Len.f a2_0 a2_1).bind fun t356 => (tripartitelaw06_ChunkClasses.j0 k (l1_0.take ((ji4) : Int).toNat) (l1_1.take ((ji7) : Int).toNat) (l1_2.take ((ji10) : Int).toNat) (t356 != 0) a0_0 a0_1 a0_2 a0_3 a0_4 a0_5 a0_6 t338 t339 t340 t341 t342 t343 t344)) else (tripartitelaw06_ChunkClasses.j0 k (l1_0.take ((ji4) : Int).toNat) (l1_1.take ((ji7) : Int).toNat) (l1_2.take ((ji10) : Int).toNat) false a0_0 a0_1 a0_2 a0_3 a0_4 a0_5 a0_6 t338 t339 t340 t341 t342 t343 t344)) else (none))) else (if a2_1 ≤ a2_0 then ((chunk_Span_Len.f a2_0 a2_1).bind fun t357 => (tripartitelaw06_ChunkClasses.j0 k (l1_0.take ((ji4) : Int).toNat) (l1_1.take ((ji7) : Int).toNat) (l1_2.take ((ji10) : Int).toNat) (t357 != 0) a0_0 a0_1 a0_2 a0_3 a0_4 a0_5 a0_6 t338 t339 t340 t341 t342 t343 t344)) else (tripartitelaw06_ChunkClasses.j0 k (l1_0.take ((ji4) : Int).toNat) (l1_1.take ((ji7) : Int).toNat) (l1_2.take ((ji10) : Int).toNat) false a0_0 a0_1 a0_2 a0_3 a0_4 a0_5 a0_6 t338 t339 t340 t341 t342 t343 t344))) else (if a2_1 ≤ a2_0 then ((chunk_Span_Len.f a2_0 a2_1).bind fun t358 => (tripartitelaw06_ChunkClasses.j0 k (l1_0.take ((ji4) : Int).toNat) (l1_1.take ((ji7) : Int).toNat) (l1_2.take ((ji10) : Int).toNat) (t358 != 0) a0_0 a0_1 a0_2 a0_3 a0_4 a0_5 a0_6 t338 t339 t340 t341 t342 t343 t344)) else (tripartitelaw06_ChunkClasses.j0 k (l1_0.take ((ji4) : Int).toNat) (l1_1.take ((ji7) : Int).toNat) (l1_2.take ((ji10) : Int).toNat) false a0_0 a0_1 a0_2 a0_3 a0_4 a0_5 a0_6 t338 t339 t340 t341 t342 t343 t344))) else (none))))) = some r := by rw [if_pos rfl] at H; exact H
        clear H
        have H := H1
        clear H1
        replace H := Option.bind_eq_some_iff.mp H
        obtain ⟨t348, A160, H⟩ := H
        try dsimp only at H
        have A16 := Aside0.mk A160
        clear A160
        replace H := Option.bind_eq_some_iff.mp H
        obtain ⟨t351, A170, H⟩ := H
        try dsimp only at H
        have A17 := Aside0.mk A170
        clear A170
        replace H := Option.bind_eq_some_iff.mp H
        obtain ⟨t354, A180, H⟩ := H
        try dsimp only at H
        have A18 := Aside0.mk A180
        clear A180
        by_cases c19 : t354 = true
        ·subst c19
         have H1 : (if a2_0 ≥ 0 then (if a2_1 ≥ a2_0 then ((chunk_Span_Len.f a2_0 a2_1).bind fun t355 => (if t355 = (wrap64 (a2_1 - a2_0)) then (if a2_1 ≤ a2_0 then ((chunk_Span_Len.f a2_0 a2_1).bind fun t356 => (tripartitelaw06_ChunkClasses.j0 k (l1_0.take ((ji4) : Int).toNat) (l1_1.take ((ji7) : Int).toNat) (l1_2.take ((ji10) : Int).toNat) (t356 != 0) a0_0 a0_1 a0_2 a0_3 a0_4 a0_5 a0_6 t338 t339 t340 t341 t342 t343 t344)) else (tripartitelaw06_ChunkClasses.j0 k (l1_0.take ((ji4) : Int).toNat) (l1_1.take ((ji7) : Int).toNat) (l1_2.take ((ji10) : Int).toNat) false a0_0 a0_1 a0_2 a0_3 a0_4 a0_5 a0_6 t338 t339 t340 t341 t342 t343 t344)) else (none))) else (if a2_1 ≤ a2_0 then ((chunk_Span_Len.f a2_0 a2_1).bind fun t357 => (tripartitelaw06_ChunkClasses.j0 k (l1_0.take ((ji4) : Int).toNat) (l1_1.take ((ji7) : Int).toNat) (l1_2.take ((ji10) : Int).toNat) (t357 != 0) a0_0 a0_1 a0_2 a0_3 a0_4 a0_5 a0_6 t338 t339 t340 t341 t342 t343 t344)) else (tripartitelaw06_ChunkClasses.j0 k (l1_0.take ((ji4) : Int).toNat) (l1_1.take ((ji7) : Int).toNat) (l1_2.take ((ji10) : Int).toNat) false a0_0 a0_1 a0_2 a0_3 a0_4 a0_5 a0_6 t338 t339 t340 t341 t342 t343 t344))) else (if a2_1 ≤ a2_0 then ((chunk_Span_Len.f a2_0 a2_1).bind fun t358 => (tripartitelaw06_ChunkClasses.j0 k (l1_0.take ((ji4) : Int).toNat) (l1_1.take ((ji7) : Int).toNat) (l1_2.take ((ji10) : Int).toNat) (t358 != 0) a0_0 a0_1 a0_2 a0_3 a0_4 a0_5 a0_6 t338 t339 t340 t341 t342 t343 t344)) else (tripartitelaw06_ChunkClasses.j0 k (l1_0.take ((ji4) : Int).toNat) (l1_1.take ((ji7) : Int).toNat) (l1_2.take ((ji10) : Int).toNat) false a0_0 a0_1 a0_2 a0_3 a0_4 a0_5 a0_6 t338 t339 t340 t341 t342 t343 t344))) = some r := by rw [if_pos rfl] at H; exact H
         clear H
         have H := H1
         clear H1
         have HC20 := Aside0.mk H
         clear H
         have TLji4 := Aside0.mk (show (l1_0.take ((ji4) : Int).toNat).length = (ji4).toNat from (by rw [List.length_take]; have h_ : ((ji4) : Int) ≤ (l1_0.length : Int) := of_decide_eq_true (by first | (with_reducible assumption) | assumption); omega))
         have TLji7 := Aside0.mk (show (l1_1.take ((ji7) : Int).toNat).length = (ji7).toNat from (by rw [List.length_take]; have h_ : ((ji7) : Int) ≤ (l1_1.length : Int) := of_decide_eq_true (by first | (with_reducible assumption) | assumption); omega))
         have TLji10 := Aside0.mk (show (l1_2.take ((ji10) : Int).toNat).length = (ji10).toNat from (by rw [List.length_take]; have h_ : ((ji10) : Int) ≤ (l1_2.length : Int) := of_decide_eq_true (by first | (with_reducible assumption) | assumption); omega))
         go_enter Try.func4, Try.ntmps4
         try go_wp2_with (first | ((with_reducible refine gate_dst (N := 3) rfl ?_); (try (refine gate_guard (by rfl) ?_; dsimp only)); refine box_event ?hg (N := 3) ?hd (cs := #[.bool a0_0, .int .i64 a0_1, .int .i64 a0_2, .int .i64 a0_3, .int .i64 a0_4, .int .i64 a0_5, .int .i64 a0_6]) (t := 43) ?hr ?_; (case hd => rfl); (case hg => rfl); (case hr => first | (go_simp; done) | (go_simp; rfl)); intro gb332 hg w21 hbox hb; have n0_ := Aside0.mk (below_step (by repeat (first | (with_reducible first | exact HB.out | apply below_alloc | apply pw_below_drewN | apply below_drew1) | exact HB.out)) hb); have n1_ := Aside0.mk (hbox); have n2_ := Aside0.mk ((by rw [hg]; exact (below_size (by repeat (first | (with_reducible first | exact HB.out | apply below_alloc | apply pw_below_drewN | apply below_drew1) | exact HB.out))) : w.heap.size ≤ gb332)); have n3_ := Aside0.mk ((by rw [hg]; exact (below_size (by repeat (first | (with_reducible first | exact HB.out | apply below_alloc | apply pw_below_drewN | apply below_drew1) | exact HB.out))) : w.heap.size ≤ gb332)); clear HB; have HB := n0_; have BK332 := n1_; have GW332 := n2_; have GE332 := n3_; clear n0_ n1_ n2_ n3_; clear hb hbox hg) | ((with_reducible refine gate_dst (N := 4) rfl ?_); (try (refine gate_guard (by rfl) ?_; dsimp only)); refine box_event ?hg (N := 4) ?hd (cs := #[.slice A1_0 l1_0.length c1_0, .slice A1_1 l1_1.length c1_1, .slice A1_2 l1_2.length c1_2]) (t := 49) ?hr ?_; (case hd => rfl); (case hg => rfl); (case hr => first | (go_simp; done) | (go_simp; rfl)); intro gb333 hg w22 hbox hb; have n0_ := bb hb BK332.out; have n1_ := Aside0.mk (below_step (by repeat (first | (with_reducible first | exact HB.out | apply below_alloc | apply pw_below_drewN | apply below_drew1 | refine below_set ?_ GE332.out) | exact HB.out)) hb); have n2_ := Aside0.mk (hbox); have n3_ := Aside0.mk ((by rw [hg]; exact (below_size (by repeat (first | (with_reducible first | exact HB.out | apply below_alloc | apply pw_below_drewN | apply below_drew1 | refine below_set ?_ GE332.out) | exact HB.out))) : w.heap.size ≤ gb333)); have n4_ := Aside0.mk ((by rw [hg]; exact (below_size (by repeat (first | (with_reducible first | exact HB.out | apply below_alloc | apply pw_below_drewN | apply below_drew1 | refine below_set ?_ GE332.out) | exact HB.out))) : w.heap.size ≤ gb333)); have n5_ := Aside0.mk ((by rw [hg]; exact Nat.ne_of_lt (blk_lt (g := gb332) (o := .cells #[.bool a0_0, .int .i64 a0_1, .int .i64 a0_2, .int .i64 a0_3, .int .i64 a0_4, .int .i64 a0_5, .int .i64 a0_6] 43 (0, 0)) (by (with_reducible repeat (first | refine blk_drewN ?_ _ | refine blk_drew ?_ | refine blk_alloc ?_ _)); exact BK332.out)) : gb332 ≠ gb333)); have n6_ := Aside0.mk ((by rw [hg]; exact Nat.ne_of_gt (blk_lt (g := gb332) (o := .cells #[.bool a0_0, .int .i64 a0_1, .int .i64 a0_2, .int .i64 a0_3, .int .i64 a0_4, .int .i64 a0_5, .int .i64 a0_6] 43 (0, 0)) (by (with_reducible repeat (first | refine blk_drewN ?_ _ | refine blk_drew ?_ | refine blk_alloc ?_ _)); exact BK332.out)) : gb333 ≠ gb332)); clear BK332; clear HB; have BK332 := n0_; have HB := n1_; have BK333 := n2_; have GW333 := n3_; have GE333 := n4_; have NB332_333 := n5_; have NB333_332 := n6_; clear n0_ n1_ n2_ n3_ n4_ n5_ n6_; clear hb hbox hg) | ((with_reducible refine gate_dst (N := 5) rfl ?_); (try (refine gate_guard (by rfl) ?_; dsimp only)); refine box_event ?hg (N := 5) ?hd (cs := #[.int .i64 a2_0, .int .i64 a2_1]) (t := 41) ?hr ?_; (case hd => rfl); (case hg => rfl); (case hr => first | (go_simp; done) | (go_simp; rfl)); intro gb334 hg w23 hbox hb; have n0_ := bb hb BK332.out; have n1_ := bb hb BK333.out; have n2_ := Aside0.mk (below_step (by repeat (first | (with_reducible first | exact HB.out | apply below_alloc | apply pw_below_drewN | apply below_drew1 | refine below_set ?_ GE332.out | refine below_set ?_ GE333.out) | exact HB.out)) hb); have n3_ := Aside0.mk (hbox); have n4_ := Aside0.mk ((by rw [hg]; exact (below_size (by repeat (first | (with_reducible first | exact HB.out | apply below_alloc | apply pw_below_drewN | apply below_drew1 | refine below_set ?_ GE332.out | refine below_set ?_ GE333.out) | exact HB.out))) : w.heap.size ≤ gb334)); have n5_ := Aside0.mk ((by rw [hg]; exact (below_size (by repeat (first | (with_reducible first | exact HB.out | apply below_alloc | apply pw_below_drewN | apply below_drew1 | refine below_set ?_ GE332.out | refine below_set ?_ GE333.out) | exact HB.out))) : w.heap.size ≤ gb334)); have n6_ := Aside0.mk ((by rw [hg]; exact Nat.ne_of_lt (blk_lt (g := gb332) (o := .cells #[.bool a0_0, .int .i64 a0_1, .int .i64 a0_2, .int .i64 a0_3, .int .i64 a0_4, .int .i64 a0_5, .int .i64 a0_6] 43 (0, 0)) (by (with_reducible repeat (first | refine blk_drewN ?_ _ | refine blk_drew ?_ | refine blk_alloc ?_ _)); exact BK332.out)) : gb332 ≠ gb334)); have n7_ := Aside0.mk ((by rw [hg]; exact Nat.ne_of_gt (blk_lt (g := gb332) (o := .cells #[.bool a0_0, .int .i64 a0_1, .int .i64 a0_2, .int .i64 a0_3, .int .i64 a0_4, .int .i64 a0_5, .int .i64 a0_6] 43 (0, 0)) (by (with_reducible repeat (first | refine blk_drewN ?_ _ | refine blk_drew ?_ | refine blk_alloc ?_ _)); exact BK332.out)) : gb334 ≠ gb332)); have n8_ := Aside0.mk ((by rw [hg]; exact Nat.ne_of_lt (blk_lt (g := gb333) (o := .cells #[.slice A1_0 l1_0.length c1_0, .slice A1_1 l1_1.length c1_1, .slice A1_2 l1_2.length c1_2] 49 (0, 0)) (by (with_reducible repeat (first | refine blk_drewN ?_ _ | refine blk_drew ?_ | refine blk_alloc ?_ _)); exact BK333.out)) : gb333 ≠ gb334)); have n9_ := Aside0.mk ((by rw [hg]; exact Nat.ne_of_gt (blk_lt (g := gb333) (o := .cells #[.slice A1_0 l1_0.length c1_0, .slice A1_1 l1_1.length c1_1, .slice A1_2 l1_2.length c1_2] 49 (0, 0)) (by (with_reducible repeat (first | refine blk_drewN ?_ _ | refine blk_drew ?_ | refine blk_alloc ?_ _)); exact BK333.out)) : gb334 ≠ gb333)); clear BK332; clear BK333; clear HB; have BK332 := n0_; have BK333 := n1_; have HB := n2_; have BK334 := n3_; have GW334 := n4_; have GE334 := n5_; have NB332_334 := n6_; have NB334_332 := n7_; have NB333_334 := n8_; have NB334_333 := n9_; clear n0_ n1_ n2_ n3_ n4_ n5_ n6_ n7_ n8_ n9_; clear hb hbox hg))
         replace BK332 := Aside0.mk (blk_drew BK332.out)
         replace BK333 := Aside0.mk (blk_drew BK333.out)
         replace BK334 := Aside0.mk (blk_drew BK334.out)
         replace HB := Aside0.mk (below_drew1 HB.out)
         obtain ⟨i025, hi025, _, hsz25, _⟩ := info_parts info9
         obtain ⟨hcut25, hA25, hC25⟩ := print_take_of (P := Try.prog) Value.string (⟨#[]⟩ : ByteArray) 48 9 .i64 Try.underlying48 hi025 hsz25 A1_0 c1_0 l1_0 (ji4) (of_decide_eq_true (by first | (with_reducible assumption) | assumption)) (of_decide_eq_true (by first | (with_reducible assumption) | assumption)) HC1_0.out
         have HR335 := Aside0.mk (Kd.C_of_reads (h1 := fun _ => rfl) (hA25 _ (Kd.reads_of_C HR1_0.out)))
         have HC335 := Aside0.mk hC25
         clear hA25 hC25 hi025 hsz25
         obtain ⟨i026, hi026, _, hsz26, _⟩ := info_parts info9
         obtain ⟨hcut26, hA26, hC26⟩ := print_take_of (P := Try.prog) Value.string (⟨#[]⟩ : ByteArray) 48 9 .i64 Try.underlying48 hi026 hsz26 A1_1 c1_1 l1_1 (ji7) (of_decide_eq_true (by first | (with_reducible assumption) | assumption)) (of_decide_eq_true (by first | (with_reducible assumption) | assumption)) HC1_1.out
         have HR336 := Aside0.mk (Kd.C_of_reads (h1 := fun _ => rfl) (hA26 _ (Kd.reads_of_C HR1_1.out)))
         have HC336 := Aside0.mk hC26
         clear hA26 hC26 hi026 hsz26
         obtain ⟨i027, hi027, _, hsz27, _⟩ := info_parts info9
         obtain ⟨hcut27, hA27, hC27⟩ := print_take_of (P := Try.prog) Value.string (⟨#[]⟩ : ByteArray) 48 9 .i64 Try.underlying48 hi027 hsz27 A1_2 c1_2 l1_2 (ji10) (of_decide_eq_true (by first | (with_reducible assumption) | assumption)) (of_decide_eq_true (by first | (with_reducible assumption) | assumption)) HC1_2.out
         have HR337 := Aside0.mk (Kd.C_of_reads (h1 := fun _ => rfl) (hA27 _ (Kd.reads_of_C HR1_2.out)))
         have HC337 := Aside0.mk hC27
         clear hA27 hC27 hi027 hsz27
         refine start_ (n := 24) (S := fun w' => w'.cell? ⟨gb333, 0, none⟩ = some (.slice A1_0 l1_0.length c1_0) ∧ w'.cell? ⟨gb333, 1, none⟩ = some (.slice A1_1 l1_1.length c1_1) ∧ w'.cell? ⟨gb333, 2, none⟩ = some (.slice A1_2 l1_2.length c1_2)) (ds := []) fl0 (by kernel_rfl) rfl rfl ⟨(blk_cell BK333.out 0).trans rfl, (blk_cell BK333.out 1).trans rfl, (blk_cell BK333.out 2).trans rfl⟩ (fun hHeld => ?_); refine with_tabW tripartitelaw06_ChunkClasses.tab1 tripartitelaw06_ChunkClasses.bits1 (fun HT_ HW_ => ?_)
         generalize w23.drew = w24 at BK332 BK333 BK334 HB HR335 HR336 HR337 hHeld ⊢
         refine pu 0 (some 17) fl1 rfl rfl HT_.out (fun _ _ _ h => h) (h := ?_)
         refine pu 2 (some 19) fl2 rfl rfl HT_.out (fun _ _ _ h => h) (h := ?_)
         refine pu 7 (some 24) fl3 rfl rfl HT_.out (fun _ _ _ h => h) (h := ?_)
         refine pu 9 (some 26) fl4 rfl rfl HT_.out (fun _ _ _ h => h) (h := ?_)
         refine pu 14 (some 31) fl5 rfl rfl HT_.out (fun _ _ _ h => h) (h := ?_)
         refine pu 16 (some 33) fl6 rfl rfl HT_.out (fun _ _ _ h => h) (h := ?_)
         refine tk 1 (some 18) fl7 rfl rfl HT_.out HW_.out (fun _ _ _ h => h) hHeld (hy := by rintro w' ⟨s0, s1, s2⟩; go_simp; with_reducible rfl) (h := ?_)
         refine tk 3 (some 20) fl8 rfl rfl HT_.out HW_.out (fun _ _ _ h => h) hHeld (hy := by rintro w' ⟨s0, s1, s2⟩; go_simp; with_reducible rfl) (h := ?_)
         refine pu 4 (some 21) fl9 rfl rfl HT_.out (fun _ _ _ h => h) (h := ?_)
         refine pu 5 (some 22) fl10 rfl rfl HT_.out (fun _ _ _ h => h) (h := ?_)
         refine pu 6 (some 23) fl11 rfl rfl HT_.out (fun _ _ _ h => h) (h := ?_)
         refine pu 21 (some 7) fl12 rfl rfl HT_.out (fun _ _ _ h => h) (h := ?_)
         refine tk 8 (some 25) fl13 rfl rfl HT_.out HW_.out (fun _ _ _ h => h) hHeld (hy := by rintro w' ⟨s0, s1, s2⟩; go_simp; with_reducible rfl) (h := ?_)
         refine tk 10 (some 27) fl14 rfl rfl HT_.out HW_.out (fun _ _ _ h => h) hHeld (hy := by rintro w' ⟨s0, s1, s2⟩; go_simp; with_reducible rfl) (h := ?_)
         refine pu 11 (some 28) fl15 rfl rfl HT_.out (fun _ _ _ h => h) (h := ?_)
         refine pu 12 (some 29) fl16 rfl rfl HT_.out (fun _ _ _ h => h) (h := ?_)
         refine pu 13 (some 30) fl17 rfl rfl HT_.out (fun _ _ _ h => h) (h := ?_)
         refine pu 22 (some 8) fl18 rfl rfl HT_.out (fun _ _ _ h => h) (h := ?_)
         refine tk 15 (some 32) fl19 rfl rfl HT_.out HW_.out (fun _ _ _ h => h) hHeld (hy := by rintro w' ⟨s0, s1, s2⟩; go_simp; with_reducible rfl) (h := ?_)
         refine tk 17 (some 34) fl20 rfl rfl HT_.out HW_.out (fun _ _ _ h => h) hHeld (hy := by rintro w' ⟨s0, s1, s2⟩; go_simp; with_reducible rfl) (h := ?_)
         refine pu 18 (some 35) fl21 rfl rfl HT_.out (fun _ _ _ h => h) (h := ?_)
         refine pu 19 (some 36) fl22 rfl rfl HT_.out (fun _ _ _ h => h) (h := ?_)
         refine pu 20 (some 37) fl23 rfl rfl HT_.out (fun _ _ _ h => h) (h := ?_)
         refine pu 23 (some 9) fl24 rfl rfl HT_.out (fun _ _ _ h => h) (h := ?_)
         refine done_ (done_of HT_.out (by kernel_rfl)) ?_
         have hnb28 := NB332_333.out
         have hnc28 := NB333_332.out
         have hnb29 := NB332_334.out
         have hnc29 := NB334_332.out
         have hcz30_0 : w24.cell? ⟨gb332, 0, none⟩ = some (.bool a0_0) := (blk_cell BK332.out 0).trans rfl
         have hcz30_1 : w24.cell? ⟨gb332, 1, none⟩ = some (.int .i64 a0_1) := (blk_cell BK332.out 1).trans rfl
         have hcz30_2 : w24.cell? ⟨gb332, 2, none⟩ = some (.int .i64 a0_2) := (blk_cell BK332.out 2).trans rfl
         have hcz30_3 : w24.cell? ⟨gb332, 3, none⟩ = some (.int .i64 a0_3) := (blk_cell BK332.out 3).trans rfl
         have hcz30_4 : w24.cell? ⟨gb332, 4, none⟩ = some (.int .i64 a0_4) := (blk_cell BK332.out 4).trans rfl
         have hcz30_5 : w24.cell? ⟨gb332, 5, none⟩ = some (.int .i64 a0_5) := (blk_cell BK332.out 5).trans rfl
         have hcz30_6 : w24.cell? ⟨gb332, 6, none⟩ = some (.int .i64 a0_6) := (blk_cell BK332.out 6).trans rfl
         have hfz30_0 := blk_frozen BK332.out 0
         have hfz30_1 := blk_frozen BK332.out 1
         have hfz30_2 := blk_frozen BK332.out 2
         have hfz30_3 := blk_frozen BK332.out 3
         have hfz30_4 := blk_frozen BK332.out 4
         have hfz30_5 := blk_frozen BK332.out 5
         have hfz30_6 := blk_frozen BK332.out 6
         try go_wp2_with (first | ((with_reducible refine gate_callee (f := 15) rfl ?_); refine goesL_ (some 39) rfl rfl Try.func15 (by kernel_rfl) rfl #[.agg #[.bool a0_0, .int .i64 a0_1, .int .i64 a0_2, .int .i64 a0_3, .int .i64 a0_4, .int .i64 a0_5, .int .i64 a0_6]] rfl (by (try simp only [List.map_toArray, List.map_cons, List.map_nil]); first | done | rfl | (simp only [List.length_drop, List.length_take]; rfl)) ?_; (with_reducible refine (tripartitelaw06_To.calls a0_0 a0_1 a0_2 a0_3 a0_4 a0_5 a0_6 t338 t339 t340 t341 t342 t343 t344 _ A13.out).mono ?_); rintro e w31 ⟨rfl, hb⟩; refine ⟨_, rfl, ?_⟩; have n0_ := bb hb BK332.out; have n1_ := bb hb BK333.out; have n2_ := bb hb BK334.out; have n3_ := Aside0.mk (below_step (by repeat (first | (with_reducible first | exact HB.out | apply below_alloc | apply pw_below_drewN | apply below_drew1 | refine below_set ?_ GE332.out | refine below_set ?_ GE333.out | refine below_set ?_ GE334.out) | exact HB.out)) hb); clear BK332; clear BK333; clear BK334; clear HB; have BK332 := n0_; have BK333 := n1_; have BK334 := n2_; have HB := n3_; clear n0_ n1_ n2_ n3_; (try clear hb); (try clear hb2); (try clear hk); (try clear hi)) | ((with_reducible refine gate_dst (N := 10) rfl ?_); (try (refine gate_guard (by rfl) ?_; dsimp only)); refine box_event ?hg (N := 10) ?hd (cs := #[.bool false, .int .i64 0, .int .i64 0, .int .i64 0, .int .i64 0, .int .i64 0, .int .i64 0]) (t := 40) ?hr ?_; (case hd => rfl); (case hg => rfl); (case hr => first | (go_simp; done) | (go_simp; rfl)); intro gb345 hg w32 hbox hb; have n0_ := bb hb BK332.out; have n1_ := bb hb BK333.out; have n2_ := bb hb BK334.out; have n3_ := Aside0.mk (below_step (by repeat (first | (with_reducible first | exact HB.out | apply below_alloc | apply pw_below_drewN | apply below_drew1 | refine below_set ?_ GE332.out | refine below_set ?_ GE333.out | refine below_set ?_ GE334.out) | exact HB.out)) hb); have n4_ := Aside0.mk (hbox); have n5_ := Aside0.mk ((by rw [hg]; exact (below_size (by repeat (first | (with_reducible first | exact HB.out | apply below_alloc | apply pw_below_drewN | apply below_drew1 | refine below_set ?_ GE332.out | refine below_set ?_ GE333.out | refine below_set ?_ GE334.out) | exact HB.out))) : w.heap.size ≤ gb345)); have n6_ := Aside0.mk ((by rw [hg]; exact (below_size (by repeat (first | (with_reducible first | exact HB.out | apply below_alloc | apply pw_below_drewN | apply below_drew1 | refine below_set ?_ GE332.out | refine below_set ?_ GE333.out | refine below_set ?_ GE334.out) | exact HB.out))) : w.heap.size ≤ gb345)); have n7_ := Aside0.mk ((by rw [hg]; exact Nat.ne_of_lt (blk_lt (g := gb332) (o := .cells #[.bool a0_0, .int .i64 a0_1, .int .i64 a0_2, .int .i64 a0_3, .int .i64 a0_4, .int .i64 a0_5, .int .i64 a0_6] 43 (0, 0)) (by (with_reducible repeat (first | refine blk_drewN ?_ _ | refine blk_drew ?_ | refine blk_alloc ?_ _)); exact BK332.out)) : gb332 ≠ gb345)); have n8_ := Aside0.mk ((by rw [hg]; exact Nat.ne_of_gt (blk_lt (g := gb332) (o := .cells #[.bool a0_0, .int .i64 a0_1, .int .i64 a0_2, .int .i64 a0_3, .int .i64 a0_4, .int .i64 a0_5, .int .i64 a0_6] 43 (0, 0)) (by (with_reducible repeat (first | refine blk_drewN ?_ _ | refine blk_drew ?_ | refine blk_alloc ?_ _)); exact BK332.out)) : gb345 ≠ gb332)); have n9_ := Aside0.mk ((by rw [hg]; exact Nat.ne_of_lt (blk_lt (g := gb333) (o := .cells #[.slice A1_0 l1_0.length c1_0, .slice A1_1 l1_1.length c1_1, .slice A1_2 l1_2.length c1_2] 49 (0, 0)) (by (with_reducible repeat (first | refine blk_drewN ?_ _ | refine blk_drew ?_ | refine blk_alloc ?_ _)); exact BK333.out)) : gb333 ≠ gb345)); have n10_ := Aside0.mk ((by rw [hg]; exact Nat.ne_of_gt (blk_lt (g := gb333) (o := .cells #[.slice A1_0 l1_0.length c1_0, .slice A1_1 l1_1.length c1_1, .slice A1_2 l1_2.length c1_2] 49 (0, 0)) (by (with_reducible repeat (first | refine blk_drewN ?_ _ | refine blk_drew ?_ | refine blk_alloc ?_ _)); exact BK333.out)) : gb345 ≠ gb333)); have n11_ := Aside0.mk ((by rw [hg]; exact Nat.ne_of_lt (blk_lt (g := gb334) (o := .cells #[.int .i64 a2_0, .int .i64 a2_1] 41 (0, 0)) (by (with_reducible repeat (first | refine blk_drewN ?_ _ | refine blk_drew ?_ | refine blk_alloc ?_ _)); exact BK334.out)) : gb334 ≠ gb345)); have n12_ := Aside0.mk ((by rw [hg]; exact Nat.ne_of_gt (blk_lt (g := gb334) (o := .cells #[.int .i64 a2_0, .int .i64 a2_1] 41 (0, 0)) (by (with_reducible repeat (first | refine blk_drewN ?_ _ | refine blk_drew ?_ | refine blk_alloc ?_ _)); exact BK334.out)) : gb345 ≠ gb334)); clear BK332; clear BK333; clear BK334; clear HB; have BK332 := n0_; have BK333 := n1_; have BK334 := n2_; have HB := n3_; have BK345 := n4_; have GW345 := n5_; have GE345 := n6_; have NB332_345 := n7_; have NB345_332 := n8_; have NB333_345 := n9_; have NB345_333 := n10_; have NB334_345 := n11_; have NB345_334 := n12_; clear n0_ n1_ n2_ n3_ n4_ n5_ n6_ n7_ n8_ n9_ n10_ n11_ n12_; clear hb hbox hg; have hnb33 := NB345_332.out; have hnc33 := NB332_345.out; have hnb34 := NB345_333.out; have hnc34 := NB333_345.out; have hnb35 := NB345_334.out; have hnc35 := NB334_345.out; have hcz36_0 : w32.cell? ⟨gb345, 0, none⟩ = some (.bool false) := (blk_cell BK345.out 0).trans rfl; have hcz36_1 : w32.cell? ⟨gb345, 1, none⟩ = some (.int .i64 0) := (blk_cell BK345.out 1).trans rfl; have hcz36_2 : w32.cell? ⟨gb345, 2, none⟩ = some (.int .i64 0) := (blk_cell BK345.out 2).trans rfl; have hcz36_3 : w32.cell? ⟨gb345, 3, none⟩ = some (.int .i64 0) := (blk_cell BK345.out 3).trans rfl; have hcz36_4 : w32.cell? ⟨gb345, 4, none⟩ = some (.int .i64 0) := (blk_cell BK345.out 4).trans rfl; have hcz36_5 : w32.cell? ⟨gb345, 5, none⟩ = some (.int .i64 0) := (blk_cell BK345.out 5).trans rfl; have hcz36_6 : w32.cell? ⟨gb345, 6, none⟩ = some (.int .i64 0) := (blk_cell BK345.out 6).trans rfl; have hfz36_0 := blk_frozen BK345.out 0; have hfz36_1 := blk_frozen BK345.out 1; have hfz36_2 := blk_frozen BK345.out 2; have hfz36_3 := blk_frozen BK345.out 3; have hfz36_4 := blk_frozen BK345.out 4; have hfz36_5 := blk_frozen BK345.out 5; have hfz36_6 := blk_frozen BK345.out 6; have hnb37 := NB334_333.out; have hnc37 := NB333_334.out; have hcz38_0 : w32.cell? ⟨gb334, 0, none⟩ = some (.int .i64 a2_0) := (blk_cell BK334.out 0).trans rfl; have hcz38_1 : w32.cell? ⟨gb334, 1, none⟩ = some (.int .i64 a2_1) := (blk_cell BK334.out 1).trans rfl; have hfz38_0 := blk_frozen BK334.out 0; have hfz38_1 := blk_frozen BK334.out 1) | ((with_reducible refine gate_dst (N := 11) rfl ?_); (try (refine gate_guard (by rfl) ?_; dsimp only)); refine box_event ?hg (N := 11) ?hd (cs := #[.int .i64 0, .int .i64 0]) (t := 38) ?hr ?_; (case hd => rfl); (case hg => rfl); (case hr => first | (go_simp; done) | (go_simp; rfl)); intro gb346 hg w39 hbox hb; have n0_ := Aside0.mk (blk_below (g := gb332) (o := .cells #[.bool a0_0, .int .i64 a0_1, .int .i64 a0_2, .int .i64 a0_3, .int .i64 a0_4, .int .i64 a0_5, .int .i64 a0_6] 43 (0, 0)) (by (with_reducible repeat (first | refine blk_drewN ?_ _ | refine blk_drew ?_ | refine blk_alloc ?_ _)); refine blk_far ?_ NB332_345.out _; (with_reducible repeat (first | refine blk_drewN ?_ _ | refine blk_drew ?_ | refine blk_alloc ?_ _)); refine blk_far ?_ NB332_345.out _; (with_reducible repeat (first | refine blk_drewN ?_ _ | refine blk_drew ?_ | refine blk_alloc ?_ _)); refine blk_far ?_ NB332_345.out _; (with_reducible repeat (first | refine blk_drewN ?_ _ | refine blk_drew ?_ | refine blk_alloc ?_ _)); refine blk_far ?_ NB332_345.out _; (with_reducible repeat (first | refine blk_drewN ?_ _ | refine blk_drew ?_ | refine blk_alloc ?_ _)); refine blk_far ?_ NB332_345.out _; (with_reducible repeat (first | refine blk_drewN ?_ _ | refine blk_drew ?_ | refine blk_alloc ?_ _)); refine blk_far ?_ NB332_345.out _; (with_reducible repeat (first | refine blk_drewN ?_ _ | refine blk_drew ?_ | refine blk_alloc ?_ _)); refine blk_far ?_ NB332_345.out _; (with_reducible repeat (first | refine blk_drewN ?_ _ | refine blk_drew ?_ | refine blk_alloc ?_ _)); exact BK332.out) hb); have n1_ := Aside0.mk (blk_below (g := gb333) (o := .cells #[.slice A1_0 l1_0.length c1_0, .slice A1_1 l1_1.length c1_1, .slice A1_2 l1_2.length c1_2] 49 (0, 0)) (by (with_reducible repeat (first | refine blk_drewN ?_ _ | refine blk_drew ?_ | refine blk_alloc ?_ _)); refine blk_far ?_ NB333_345.out _; (with_reducible repeat (first | refine blk_drewN ?_ _ | refine blk_drew ?_ | refine blk_alloc ?_ _)); refine blk_far ?_ NB333_345.out _; (with_reducible repeat (first | refine blk_drewN ?_ _ | refine blk_drew ?_ | refine blk_alloc ?_ _)); refine blk_far ?_ NB333_345.out _; (with_reducible repeat (first | refine blk_drewN ?_ _ | refine blk_drew ?_ | refine blk_alloc ?_ _)); refine blk_far ?_ NB333_345.out _; (with_reducible repeat (first | refine blk_drewN ?_ _ | refine blk_drew ?_ | refine blk_alloc ?_ _)); refine blk_far ?_ NB333_345.out _; (with_reducible repeat (first | refine blk_drewN ?_ _ | refine blk_drew ?_ | refine blk_alloc ?_ _)); refine blk_far ?_ NB333_345.out _; (with_reducible repeat (first | refine blk_drewN ?_ _ | refine blk_drew ?_ | refine blk_alloc ?_ _)); refine blk_far ?_ NB333_345.out _; (with_reducible repeat (first | refine blk_drewN ?_ _ | refine blk_drew ?_ | refine blk_alloc ?_ _)); exact BK333.out) hb); have n2_ := Aside0.mk (blk_below (g := gb334) (o := .cells #[.int .i64 a2_0, .int .i64 a2_1] 41 (0, 0)) (by (with_reducible repeat (first | refine blk_drewN ?_ _ | refine blk_drew ?_ | refine blk_alloc ?_ _)); refine blk_far ?_ NB334_345.out _; (with_reducible repeat (first | refine blk_drewN ?_ _ | refine blk_drew ?_ | refine blk_alloc ?_ _)); refine blk_far ?_ NB334_345.out _; (with_reducible repeat (first | refine blk_drewN ?_ _ | refine blk_drew ?_ | refine blk_alloc ?_ _)); refine blk_far ?_ NB334_345.out _; (with_reducible repeat (first | refine blk_drewN ?_ _ | refine blk_drew ?_ | refine blk_alloc ?_ _)); refine blk_far ?_ NB334_345.out _; (with_reducible repeat (first | refine blk_drewN ?_ _ | refine blk_drew ?_ | refine blk_alloc ?_ _)); refine blk_far ?_ NB334_345.out _; (with_reducible repeat (first | refine blk_drewN ?_ _ | refine blk_drew ?_ | refine blk_alloc ?_ _)); refine blk_far ?_ NB334_345.out _; (with_reducible repeat (first | refine blk_drewN ?_ _ | refine blk_drew ?_ | refine blk_alloc ?_ _)); refine blk_far ?_ NB334_345.out _; (with_reducible repeat (first | refine blk_drewN ?_ _ | refine blk_drew ?_ | refine blk_alloc ?_ _)); exact BK334.out) hb); have n3_ := Aside0.mk (blk_below (g := gb345) (o := .cells #[.bool t338, .int .i64 t339, .int .i64 t340, .int .i64 t341, .int .i64 t342, .int .i64 t343, .int .i64 t344] 40 (0, 0)) (by (with_reducible repeat (first | refine blk_drewN ?_ _ | refine blk_drew ?_ | refine blk_alloc ?_ _)); refine blk_put (cs := #[.bool t338, .int .i64 t339, .int .i64 t340, .int .i64 t341, .int .i64 t342, .int .i64 t343, .int .i64 0]) ?_ 6 _ rfl; (with_reducible repeat (first | refine blk_drewN ?_ _ | refine blk_drew ?_ | refine blk_alloc ?_ _)); refine blk_put (cs := #[.bool t338, .int .i64 t339, .int .i64 t340, .int .i64 t341, .int .i64 t342, .int .i64 0, .int .i64 0]) ?_ 5 _ rfl; (with_reducible repeat (first | refine blk_drewN ?_ _ | refine blk_drew ?_ | refine blk_alloc ?_ _)); refine blk_put (cs := #[.bool t338, .int .i64 t339, .int .i64 t340, .int .i64 t341, .int .i64 0, .int .i64 0, .int .i64 0]) ?_ 4 _ rfl; (with_reducible repeat (first | refine blk_drewN ?_ _ | refine blk_drew ?_ | refine blk_alloc ?_ _)); refine blk_put (cs := #[.bool t338, .int .i64 t339, .int .i64 t340, .int .i64 0, .int .i64 0, .int .i64 0, .int .i64 0]) ?_ 3 _ rfl; (with_reducible repeat (first | refine blk_drewN ?_ _ | refine blk_drew ?_ | refine blk_alloc ?_ _)); refine blk_put (cs := #[.bool t338, .int .i64 t339, .int .i64 0, .int .i64 0, .int .i64 0, .int .i64 0, .int .i64 0]) ?_ 2 _ rfl; (with_reducible repeat (first | refine blk_drewN ?_ _ | refine blk_drew ?_ | refine blk_alloc ?_ _)); refine blk_put (cs := #[.bool t338, .int .i64 0, .int .i64 0, .int .i64 0, .int .i64 0, .int .i64 0, .int .i64 0]) ?_ 1 _ rfl; (with_reducible repeat (first | refine blk_drewN ?_ _ | refine blk_drew ?_ | refine blk_alloc ?_ _)); refine blk_put (cs := #[.bool false, .int .i64 0, .int .i64 0, .int .i64 0, .int .i64 0, .int .i64 0, .int .i64 0]) ?_ 0 _ rfl; (with_reducible repeat (first | refine blk_drewN ?_ _ | refine blk_drew ?_ | refine blk_alloc ?_ _)); exact BK345.out) hb); have n4_ := Aside0.mk (below_step (by repeat (first | (with_reducible first | exact HB.out | apply below_alloc | apply pw_below_drewN | apply below_drew1 | refine below_set ?_ GE332.out | refine below_set ?_ GE333.out | refine below_set ?_ GE334.out | refine below_set ?_ GE345.out) | exact HB.out)) hb); have n5_ := Aside0.mk (hbox); have n6_ := Aside0.mk ((by rw [hg]; exact (below_size (by repeat (first | (with_reducible first | exact HB.out | apply below_alloc | apply pw_below_drewN | apply below_drew1 | refine below_set ?_ GE332.out | refine below_set ?_ GE333.out | refine below_set ?_ GE334.out | refine below_set ?_ GE345.out) | exact HB.out))) : w.heap.size ≤ gb346)); have n7_ := Aside0.mk ((by rw [hg]; exact (below_size (by repeat (first | (with_reducible first | exact HB.out | apply below_alloc | apply pw_below_drewN | apply below_drew1 | refine below_set ?_ GE332.out | refine below_set ?_ GE333.out | refine below_set ?_ GE334.out | refine below_set ?_ GE345.out) | exact HB.out))) : w.heap.size ≤ gb346)); have n8_ := Aside0.mk ((by rw [hg]; exact Nat.ne_of_lt (blk_lt (g := gb332) (o := .cells #[.bool a0_0, .int .i64 a0_1, .int .i64 a0_2, .int .i64 a0_3, .int .i64 a0_4, .int .i64 a0_5, .int .i64 a0_6] 43 (0, 0)) (by (with_reducible repeat (first | refine blk_drewN ?_ _ | refine blk_drew ?_ | refine blk_alloc ?_ _)); refine blk_far ?_ NB332_345.out _; (with_reducible repeat (first | refine blk_drewN ?_ _ | refine blk_drew ?_ | refine blk_alloc ?_ _)); refine blk_far ?_ NB332_345.out _; (with_reducible repeat (first | refine blk_drewN ?_ _ | refine blk_drew ?_ | refine blk_alloc ?_ _)); refine blk_far ?_ NB332_345.out _; (with_reducible repeat (first | refine blk_drewN ?_ _ | refine blk_drew ?_ | refine blk_alloc ?_ _)); refine blk_far ?_ NB332_345.out _; (with_reducible repeat (first | refine blk_drewN ?_ _ | refine blk_drew ?_ | refine blk_alloc ?_ _)); refine blk_far ?_ NB332_345.out _; (with_reducible repeat (first | refine blk_drewN ?_ _ | refine blk_drew ?_ | refine blk_alloc ?_ _)); refine blk_far ?_ NB332_345.out _; (with_reducible repeat (first | refine blk_drewN ?_ _ | refine blk_drew ?_ | refine blk_alloc ?_ _)); refine blk_far ?_ NB332_345.out _; (with_reducible repeat (first | refine blk_drewN ?_ _ | refine blk_drew ?_ | refine blk_alloc ?_ _)); exact BK332.out)) : gb332 ≠ gb346)); have n9_ := Aside0.mk ((by rw [hg]; exact Nat.ne_of_gt (blk_lt (g := gb332) (o := .cells #[.bool a0_0, .int .i64 a0_1, .int .i64 a0_2, .int .i64 a0_3, .int .i64 a0_4, .int .i64 a0_5, .int .i64 a0_6] 43 (0, 0)) (by (with_reducible repeat (first | refine blk_drewN ?_ _ | refine blk_drew ?_ | refine blk_alloc ?_ _)); refine blk_far ?_ NB332_345.out _; (with_reducible repeat (first | refine blk_drewN ?_ _ | refine blk_drew ?_ | refine blk_alloc ?_ _)); refine blk_far ?_ NB332_345.out _; (with_reducible repeat (first | refine blk_drewN ?_ _ | refine blk_drew ?_ | refine blk_alloc ?_ _)); refine blk_far ?_ NB332_345.out _; (with_reducible repeat (first | refine blk_drewN ?_ _ | refine blk_drew ?_ | refine blk_alloc ?_ _)); refine blk_far ?_ NB332_345.out _; (with_reducible repeat (first | refine blk_drewN ?_ _ | refine blk_drew ?_ | refine blk_alloc ?_ _)); refine blk_far ?_ NB332_345.out _; (with_reducible repeat (first | refine blk_drewN ?_ _ | refine blk_drew ?_ | refine blk_alloc ?_ _)); refine blk_far ?_ NB332_345.out _; (with_reducible repeat (first | refine blk_drewN ?_ _ | refine blk_drew ?_ | refine blk_alloc ?_ _)); refine blk_far ?_ NB332_345.out _; (with_reducible repeat (first | refine blk_drewN ?_ _ | refine blk_drew ?_ | refine blk_alloc ?_ _)); exact BK332.out)) : gb346 ≠ gb332)); have n10_ := Aside0.mk ((by rw [hg]; exact Nat.ne_of_lt (blk_lt (g := gb333) (o := .cells #[.slice A1_0 l1_0.length c1_0, .slice A1_1 l1_1.length c1_1, .slice A1_2 l1_2.length c1_2] 49 (0, 0)) (by (with_reducible repeat (first | refine blk_drewN ?_ _ | refine blk_drew ?_ | refine blk_alloc ?_ _)); refine blk_far ?_ NB333_345.out _; (with_reducible repeat (first | refine blk_drewN ?_ _ | refine blk_drew ?_ | refine blk_alloc ?_ _)); refine blk_far ?_ NB333_345.out _; (with_reducible repeat (first | refine blk_drewN ?_ _ | refine blk_drew ?_ | refine blk_alloc ?_ _)); refine blk_far ?_ NB333_345.out _; (with_reducible repeat (first | refine blk_drewN ?_ _ | refine blk_drew ?_ | refine blk_alloc ?_ _)); refine blk_far ?_ NB333_345.out _; (with_reducible repeat (first | refine blk_drewN ?_ _ | refine blk_drew ?_ | refine blk_alloc ?_ _)); refine blk_far ?_ NB333_345.out _; (with_reducible repeat (first | refine blk_drewN ?_ _ | refine blk_drew ?_ | refine blk_alloc ?_ _)); refine blk_far ?_ NB333_345.out _; (with_reducible repeat (first | refine blk_drewN ?_ _ | refine blk_drew ?_ | refine blk_alloc ?_ _)); refine blk_far ?_ NB333_345.out _; (with_reducible repeat (first | refine blk_drewN ?_ _ | refine blk_drew ?_ | refine blk_alloc ?_ _)); exact BK333.out)) : gb333 ≠ gb346)); have n11_ := Aside0.mk ((by rw [hg]; exact Nat.ne_of_gt (blk_lt (g := gb333) (o := .cells #[.slice A1_0 l1_0.length c1_0, .slice A1_1 l1_1.length c1_1, .slice A1_2 l1_2.length c1_2] 49 (0, 0)) (by (with_reducible repeat (first | refine blk_drewN ?_ _ | refine blk_drew ?_ | refine blk_alloc ?_ _)); refine blk_far ?_ NB333_345.out _; (with_reducible repeat (first | refine blk_drewN ?_ _ | refine blk_drew ?_ | refine blk_alloc ?_ _)); refine blk_far ?_ NB333_345.out _; (with_reducible repeat (first | refine blk_drewN ?_ _ | refine blk_drew ?_ | refine blk_alloc ?_ _)); refine blk_far ?_ NB333_345.out _; (with_reducible repeat (first | refine blk_drewN ?_ _ | refine blk_drew ?_ | refine blk_alloc ?_ _)); refine blk_far ?_ NB333_345.out _; (with_reducible repeat (first | refine blk_drewN ?_ _ | refine blk_drew ?_ | refine blk_alloc ?_ _)); refine blk_far ?_ NB333_345.out _; (with_reducible repeat (first | refine blk_drewN ?_ _ | refine blk_drew ?_ | refine blk_alloc ?_ _)); refine blk_far ?_ NB333_345.out _; (with_reducible repeat (first | refine blk_drewN ?_ _ | refine blk_drew ?_ | refine blk_alloc ?_ _)); refine blk_far ?_ NB333_345.out _; (with_reducible repeat (first | refine blk_drewN ?_ _ | refine blk_drew ?_ | refine blk_alloc ?_ _)); exact BK333.out)) : gb346 ≠ gb333)); have n12_ := Aside0.mk ((by rw [hg]; exact Nat.ne_of_lt (blk_lt (g := gb334) (o := .cells #[.int .i64 a2_0, .int .i64 a2_1] 41 (0, 0)) (by (with_reducible repeat (first | refine blk_drewN ?_ _ | refine blk_drew ?_ | refine blk_alloc ?_ _)); refine blk_far ?_ NB334_345.out _; (with_reducible repeat (first | refine blk_drewN ?_ _ | refine blk_drew ?_ | refine blk_alloc ?_ _)); refine blk_far ?_ NB334_345.out _; (with_reducible repeat (first | refine blk_drewN ?_ _ | refine blk_drew ?_ | refine blk_alloc ?_ _)); refine blk_far ?_ NB334_345.out _; (with_reducible repeat (first | refine blk_drewN ?_ _ | refine blk_drew ?_ | refine blk_alloc ?_ _)); refine blk_far ?_ NB334_345.out _; (with_reducible repeat (first | refine blk_drewN ?_ _ | refine blk_drew ?_ | refine blk_alloc ?_ _)); refine blk_far ?_ NB334_345.out _; (with_reducible repeat (first | refine blk_drewN ?_ _ | refine blk_drew ?_ | refine blk_alloc ?_ _)); refine blk_far ?_ NB334_345.out _; (with_reducible repeat (first | refine blk_drewN ?_ _ | refine blk_drew ?_ | refine blk_alloc ?_ _)); refine blk_far ?_ NB334_345.out _; (with_reducible repeat (first | refine blk_drewN ?_ _ | refine blk_drew ?_ | refine blk_alloc ?_ _)); exact BK334.out)) : gb334 ≠ gb346)); have n13_ := Aside0.mk ((by rw [hg]; exact Nat.ne_of_gt (blk_lt (g := gb334) (o := .cells #[.int .i64 a2_0, .int .i64 a2_1] 41 (0, 0)) (by (with_reducible repeat (first | refine blk_drewN ?_ _ | refine blk_drew ?_ | refine blk_alloc ?_ _)); refine blk_far ?_ NB334_345.out _; (with_reducible repeat (first | refine blk_drewN ?_ _ | refine blk_drew ?_ | refine blk_alloc ?_ _)); refine blk_far ?_ NB334_345.out _; (with_reducible repeat (first | refine blk_drewN ?_ _ | refine blk_drew ?_ | refine blk_alloc ?_ _)); refine blk_far ?_ NB334_345.out _; (with_reducible repeat (first | refine blk_drewN ?_ _ | refine blk_drew ?_ | refine blk_alloc ?_ _)); refine blk_far ?_ NB334_345.out _; (with_reducible repeat (first | refine blk_drewN ?_ _ | refine blk_drew ?_ | refine blk_alloc ?_ _)); refine blk_far ?_ NB334_345.out _; (with_reducible repeat (first | refine blk_drewN ?_ _ | refine blk_drew ?_ | refine blk_alloc ?_ _)); refine blk_far ?_ NB334_345.out _; (with_reducible repeat (first | refine blk_drewN ?_ _ | refine blk_drew ?_ | refine blk_alloc ?_ _)); refine blk_far ?_ NB334_345.out _; (with_reducible repeat (first | refine blk_drewN ?_ _ | refine blk_drew ?_ | refine blk_alloc ?_ _)); exact BK334.out)) : gb346 ≠ gb334)); have n14_ := Aside0.mk ((by rw [hg]; exact Nat.ne_of_lt (blk_lt (g := gb345) (o := .cells #[.bool t338, .int .i64 t339, .int .i64 t340, .int .i64 t341, .int .i64 t342, .int .i64 t343, .int .i64 t344] 40 (0, 0)) (by (with_reducible repeat (first | refine blk_drewN ?_ _ | refine blk_drew ?_ | refine blk_alloc ?_ _)); refine blk_put (cs := #[.bool t338, .int .i64 t339, .int .i64 t340, .int .i64 t341, .int .i64 t342, .int .i64 t343, .int .i64 0]) ?_ 6 _ rfl; (with_reducible repeat (first | refine blk_drewN ?_ _ | refine blk_drew ?_ | refine blk_alloc ?_ _)); refine blk_put (cs := #[.bool t338, .int .i64 t339, .int .i64 t340, .int .i64 t341, .int .i64 t342, .int .i64 0, .int .i64 0]) ?_ 5 _ rfl; (with_reducible repeat (first | refine blk_drewN ?_ _ | refine blk_drew ?_ | refine blk_alloc ?_ _)); refine blk_put (cs := #[.bool t338, .int .i64 t339, .int .i64 t340, .int .i64 t341, .int .i64 0, .int .i64 0, .int .i64 0]) ?_ 4 _ rfl; (with_reducible repeat (first | refine blk_drewN ?_ _ | refine blk_drew ?_ | refine blk_alloc ?_ _)); refine blk_put (cs := #[.bool t338, .int .i64 t339, .int .i64 t340, .int .i64 0, .int .i64 0, .int .i64 0, .int .i64 0]) ?_ 3 _ rfl; (with_reducible repeat (first | refine blk_drewN ?_ _ | refine blk_drew ?_ | refine blk_alloc ?_ _)); refine blk_put (cs := #[.bool t338, .int .i64 t339, .int .i64 0, .int .i64 0, .int .i64 0, .int .i64 0, .int .i64 0]) ?_ 2 _ rfl; (with_reducible repeat (first | refine blk_drewN ?_ _ | refine blk_drew ?_ | refine blk_alloc ?_ _)); refine blk_put (cs := #[.bool t338, .int .i64 0, .int .i64 0, .int .i64 0, .int .i64 0, .int .i64 0, .int .i64 0]) ?_ 1 _ rfl; (with_reducible repeat (first | refine blk_drewN ?_ _ | refine blk_drew ?_ | refine blk_alloc ?_ _)); refine blk_put (cs := #[.bool false, .int .i64 0, .int .i64 0, .int .i64 0, .int .i64 0, .int .i64 0, .int .i64 0]) ?_ 0 _ rfl; (with_reducible repeat (first | refine blk_drewN ?_ _ | refine blk_drew ?_ | refine blk_alloc ?_ _)); exact BK345.out)) : gb345 ≠ gb346)); have n15_ := Aside0.mk ((by rw [hg]; exact Nat.ne_of_gt (blk_lt (g := gb345) (o := .cells #[.bool t338, .int .i64 t339, .int .i64 t340, .int .i64 t341, .int .i64 t342, .int .i64 t343, .int .i64 t344] 40 (0, 0)) (by (with_reducible repeat (first | refine blk_drewN ?_ _ | refine blk_drew ?_ | refine blk_alloc ?_ _)); refine blk_put (cs := #[.bool t338, .int .i64 t339, .int .i64 t340, .int .i64 t341, .int .i64 t342, .int .i64 t343, .int .i64 0]) ?_ 6 _ rfl; (with_reducible repeat (first | refine blk_drewN ?_ _ | refine blk_drew ?_ | refine blk_alloc ?_ _)); refine blk_put (cs := #[.bool t338, .int .i64 t339, .int .i64 t340, .int .i64 t341, .int .i64 t342, .int .i64 0, .int .i64 0]) ?_ 5 _ rfl; (with_reducible repeat (first | refine blk_drewN ?_ _ | refine blk_drew ?_ | refine blk_alloc ?_ _)); refine blk_put (cs := #[.bool t338, .int .i64 t339, .int .i64 t340, .int .i64 t341, .int .i64 0, .int .i64 0, .int .i64 0]) ?_ 4 _ rfl; (with_reducible repeat (first | refine blk_drewN ?_ _ | refine blk_drew ?_ | refine blk_alloc ?_ _)); refine blk_put (cs := #[.bool t338, .int .i64 t339, .int .i64 t340, .int .i64 0, .int .i64 0, .int .i64 0, .int .i64 0]) ?_ 3 _ rfl; (with_reducible repeat (first | refine blk_drewN ?_ _ | refine blk_drew ?_ | refine blk_alloc ?_ _)); refine blk_put (cs := #[.bool t338, .int .i64 t339, .int .i64 0, .int .i64 0, .int .i64 0, .int .i64 0, .int .i64 0]) ?_ 2 _ rfl; (with_reducible repeat (first | refine blk_drewN ?_ _ | refine blk_drew ?_ | refine blk_alloc ?_ _)); refine blk_put (cs := #[.bool t338, .int .i64 0, .int .i64 0, .int .i64 0, .int .i64 0, .int .i64 0, .int .i64 0]) ?_ 1 _ rfl; (with_reducible repeat (first | refine blk_drewN ?_ _ | refine blk_drew ?_ | refine blk_alloc ?_ _)); refine blk_put (cs := #[.bool false, .int .i64 0, .int .i64 0, .int .i64 0, .int .i64 0, .int .i64 0, .int .i64 0]) ?_ 0 _ rfl; (with_reducible repeat (first | refine blk_drewN ?_ _ | refine blk_drew ?_ | refine blk_alloc ?_ _)); exact BK345.out)) : gb346 ≠ gb345)); clear BK332; clear BK333; clear BK334; clear BK345; clear HB; have BK332 := n0_; have BK333 := n1_; have BK334 := n2_; have BK345 := n3_; have HB := n4_; have BK346 := n5_; have GW346 := n6_; have GE346 := n7_; have NB332_346 := n8_; have NB346_332 := n9_; have NB333_346 := n10_; have NB346_333 := n11_; have NB334_346 := n12_; have NB346_334 := n13_; have NB345_346 := n14_; have NB346_345 := n15_; clear n0_ n1_ n2_ n3_ n4_ n5_ n6_ n7_ n8_ n9_ n10_ n11_ n12_ n13_ n14_ n15_; clear hb hbox hg; have hnb40 := NB346_332.out; have hnc40 := NB332_346.out; have hnb41 := NB346_333.out; have hnc41 := NB333_346.out; have hnb42 := NB346_334.out; have hnc42 := NB334_346.out; have hnb43 := NB346_345.out; have hnc43 := NB345_346.out; have hcz44_0 : w39.cell? ⟨gb346, 0, none⟩ = some (.int .i64 0) := (blk_cell BK346.out 0).trans rfl; have hcz44_1 : w39.cell? ⟨gb346, 1, none⟩ = some (.int .i64 0) := (blk_cell BK346.out 1).trans rfl; have hfz44_0 := blk_frozen BK346.out 0; have hfz44_1 := blk_frozen BK346.out 1))
         have n0_ : Aside0 (((w39.setCell ⟨gb346, 0, none⟩ (.int .i64 a2_0)).setCell ⟨gb346, 1, none⟩ (.int .i64 a2_1)).heap[gb332]? = some (.cells #[.bool a0_0, .int .i64 a0_1, .int .i64 a0_2, .int .i64 a0_3, .int .i64 a0_4, .int .i64 a0_5, .int .i64 a0_6] 43 (0, 0))) := ⟨by (with_reducible repeat (first | refine blk_drewN ?_ _ | refine blk_drew ?_ | refine blk_alloc ?_ _)); refine blk_far ?_ NB332_346.out _; (with_reducible repeat (first | refine blk_drewN ?_ _ | refine blk_drew ?_ | refine blk_alloc ?_ _)); refine blk_far ?_ NB332_346.out _; (with_reducible repeat (first | refine blk_drewN ?_ _ | refine blk_drew ?_ | refine blk_alloc ?_ _)); exact BK332.out⟩
         have n1_ : Aside0 (((w39.setCell ⟨gb346, 0, none⟩ (.int .i64 a2_0)).setCell ⟨gb346, 1, none⟩ (.int .i64 a2_1)).heap[gb333]? = some (.cells #[.slice A1_0 l1_0.length c1_0, .slice A1_1 l1_1.length c1_1, .slice A1_2 l1_2.length c1_2] 49 (0, 0))) := ⟨by (with_reducible repeat (first | refine blk_drewN ?_ _ | refine blk_drew ?_ | refine blk_alloc ?_ _)); refine blk_far ?_ NB333_346.out _; (with_reducible repeat (first | refine blk_drewN ?_ _ | refine blk_drew ?_ | refine blk_alloc ?_ _)); refine blk_far ?_ NB333_346.out _; (with_reducible repeat (first | refine blk_drewN ?_ _ | refine blk_drew ?_ | refine blk_alloc ?_ _)); exact BK333.out⟩
         have n2_ : Aside0 (((w39.setCell ⟨gb346, 0, none⟩ (.int .i64 a2_0)).setCell ⟨gb346, 1, none⟩ (.int .i64 a2_1)).heap[gb334]? = some (.cells #[.int .i64 a2_0, .int .i64 a2_1] 41 (0, 0))) := ⟨by (with_reducible repeat (first | refine blk_drewN ?_ _ | refine blk_drew ?_ | refine blk_alloc ?_ _)); refine blk_far ?_ NB334_346.out _; (with_reducible repeat (first | refine blk_drewN ?_ _ | refine blk_drew ?_ | refine blk_alloc ?_ _)); refine blk_far ?_ NB334_346.out _; (with_reducible repeat (first | refine blk_drewN ?_ _ | refine blk_drew ?_ | refine blk_alloc ?_ _)); exact BK334.out⟩
         have n3_ : Aside0 (((w39.setCell ⟨gb346, 0, none⟩ (.int .i64 a2_0)).setCell ⟨gb346, 1, none⟩ (.int .i64 a2_1)).heap[gb345]? = some (.cells #[.bool t338, .int .i64 t339, .int .i64 t340, .int .i64 t341, .int .i64 t342, .int .i64 t343, .int .i64 t344] 40 (0, 0))) := ⟨by (with_reducible repeat (first | refine blk_drewN ?_ _ | refine blk_drew ?_ | refine blk_alloc ?_ _)); refine blk_far ?_ NB345_346.out _; (with_reducible repeat (first | refine blk_drewN ?_ _ | refine blk_drew ?_ | refine blk_alloc ?_ _)); refine blk_far ?_ NB345_346.out _; (with_reducible repeat (first | refine blk_drewN ?_ _ | refine blk_drew ?_ | refine blk_alloc ?_ _)); exact BK345.out⟩
         have n4_ : Aside0 (((w39.setCell ⟨gb346, 0, none⟩ (.int .i64 a2_0)).setCell ⟨gb346, 1, none⟩ (.int .i64 a2_1)).heap[gb346]? = some (.cells #[.int .i64 a2_0, .int .i64 a2_1] 38 (0, 0))) := ⟨by (with_reducible repeat (first | refine blk_drewN ?_ _ | refine blk_drew ?_ | refine blk_alloc ?_ _)); refine blk_put (cs := #[.int .i64 a2_0, .int .i64 0]) ?_ 1 _ rfl; (with_reducible repeat (first | refine blk_drewN ?_ _ | refine blk_drew ?_ | refine blk_alloc ?_ _)); refine blk_put (cs := #[.int .i64 0, .int .i64 0]) ?_ 0 _ rfl; (with_reducible repeat (first | refine blk_drewN ?_ _ | refine blk_drew ?_ | refine blk_alloc ?_ _)); exact BK346.out⟩
         have n5_ : Aside0 (Below w.heap.size w ((w39.setCell ⟨gb346, 0, none⟩ (.int .i64 a2_0)).setCell ⟨gb346, 1, none⟩ (.int .i64 a2_1))) := ⟨by repeat (first | (with_reducible first | exact HB.out | apply below_alloc | apply pw_below_drewN | apply below_drew1 | refine below_set ?_ GE332.out | refine below_set ?_ GE333.out | refine below_set ?_ GE334.out | refine below_set ?_ GE345.out | refine below_set ?_ GE346.out) | exact HB.out)⟩
         (try clear BK332)
         (try clear BK333)
         (try clear BK334)
         (try clear BK345)
         (try clear BK346)
         (try clear HB)
         generalize ((w39.setCell ⟨gb346, 0, none⟩ (.int .i64 a2_0)).setCell ⟨gb346, 1, none⟩ (.int .i64 a2_1)) = w45 at n0_ n1_ n2_ n3_ n4_ n5_ ⊢
         have BK332 := n0_
         have BK333 := n1_
         have BK334 := n2_
         have BK345 := n3_
         have BK346 := n4_
         have HB := n5_
         clear n0_ n1_ n2_ n3_ n4_ n5_
         replace BK332 := Aside0.mk (blk_drew BK332.out)
         replace BK333 := Aside0.mk (blk_drew BK333.out)
         replace BK334 := Aside0.mk (blk_drew BK334.out)
         replace BK345 := Aside0.mk (blk_drew BK345.out)
         replace BK346 := Aside0.mk (blk_drew BK346.out)
         replace HB := Aside0.mk (below_drew1 HB.out)
         refine start_ (n := 12) (S := fun w' => w'.cell? ⟨gb346, 0, none⟩ = some (.int .i64 a2_0) ∧ w'.cell? ⟨gb346, 1, none⟩ = some (.int .i64 a2_1) ∧ w'.cell? ⟨gb334, 0, none⟩ = some (.int .i64 a2_0) ∧ w'.cell? ⟨gb334, 1, none⟩ = some (.int .i64 a2_1)) (ds := []) fl25 (by kernel_rfl) rfl rfl ⟨(blk_cell BK346.out 0).trans rfl, (blk_cell BK346.out 1).trans rfl, (blk_cell BK334.out 0).trans rfl, (blk_cell BK334.out 1).trans rfl⟩ (fun hHeld => ?_); refine with_tabW tripartitelaw06_ChunkClasses.tab4 tripartitelaw06_ChunkClasses.bits4 (fun HT_ HW_ => ?_)
         generalize w45.drew = w46 at BK332 BK333 BK334 BK345 BK346 HB hHeld ⊢
         refine one_ (i := 0) (N := some 45) fl26 rfl rfl (one_of HT_.out (by kernel_rfl)) (by decide) (fun K hK => ?_)
         refine goes_ Try.func9 (by kernel_rfl) rfl #[] (by rfl) rfl rfl (by (try simp only [List.map_toArray, List.map_cons, List.map_nil]); first | done | rfl | (simp only [List.length_drop, List.length_take]; rfl)) ?_
         with_reducible refine (tripartitelaw06_told.calls k  true _ A14.out).mono ?_
         rintro e w47 ⟨rfl, hb⟩
         refine ⟨_, rfl, ?_⟩
         replace BK332 := bb hb BK332.out
         replace BK333 := bb hb BK333.out
         replace BK334 := bb hb BK334.out
         replace BK345 := bb hb BK345.out
         replace BK346 := bb hb BK346.out
         replace HB := Aside0.mk (below_step (by repeat (first | (with_reducible first | exact HB.out | apply below_alloc | apply pw_below_drewN | apply below_drew1) | exact HB.out)) hb)
         refine hK.out _ _ ⟨(blk_cell BK346.out 0).trans rfl, (blk_cell BK346.out 1).trans rfl, (blk_cell BK334.out 0).trans rfl, (blk_cell BK334.out 1).trans rfl⟩ (fun hHeld => ?_)
         clear hK K
         refine nm (h := ?_)
         refine pu 1 (some 46) fl27 rfl rfl HT_.out (fun _ _ _ h => h) (h := ?_)
         refine pu 2 (some 47) fl28 rfl rfl HT_.out (fun _ _ _ h => h) (h := ?_)
         refine pu 4 (some 49) fl29 rfl rfl HT_.out (fun _ _ _ h => h) (h := ?_)
         refine pu 7 (some 52) fl30 rfl rfl HT_.out (fun _ _ _ h => h) (h := ?_)
         refine tk 3 (some 48) fl31 rfl rfl HT_.out HW_.out (fun _ _ _ h => h) hHeld (hy := by rintro w' ⟨s0, s1, s2, s3⟩; go_simp; with_reducible rfl) (h := ?_)
         refine tk 6 (some 51) fl32 rfl rfl HT_.out HW_.out (fun _ _ _ h => h) hHeld (hy := by rintro w' ⟨s0, s1, s2, s3⟩; go_simp; with_reducible rfl) (h := ?_)
         refine one_ (i := 5) (N := some 50) fl33 rfl rfl (one_of HT_.out (by kernel_rfl)) (by decide) (fun K hK => ?_)
         refine goes_ Try.func17 (by kernel_rfl) rfl #[.agg #[.int .i64 a2_0, .int .i64 a2_1], .slice A1_0 (l1_0.take ((ji4) : Int).toNat).length c1_0] (by rfl) rfl rfl (by (try simp only [List.map_toArray, List.map_cons, List.map_nil]); first | done | (rw [TLji4.out] <;> rfl) | (simp only [hji4]; rfl) | rfl | (simp only [List.length_drop, List.length_take]; rfl)) ?_
         with_reducible refine (chunk_Span_Cut.calls a2_0 a2_1 _ _ (l1_0.take ((ji4) : Int).toNat) t348 _ ?side1 ?side2 A16.out).mono ?_
         (case side1 => repeat (first | exact (Kd.C_below HR335.out HB.out) | (with_reducible refine Kd.C_alloc ?_ _) | (with_reducible refine Kd.C_drewN ?_ _) | (with_reducible refine Kd.C_drew ?_)))
         (case side2 => exact HC335.out)
         rintro e w48 ⟨v349, rfl, ho0, hb⟩
         replace ho0 := Rd.ofR ho0
         refine ⟨_, rfl, ?_⟩
         have HO350 := Aside0.mk ho0
         replace BK332 := bb hb BK332.out
         replace BK333 := bb hb BK333.out
         replace BK334 := bb hb BK334.out
         replace BK345 := bb hb BK345.out
         replace BK346 := bb hb BK346.out
         replace HB := Aside0.mk (below_step (by repeat (first | (with_reducible first | exact HB.out | apply below_alloc | apply pw_below_drewN | apply below_drew1) | exact HB.out)) hb)
         refine hK.out _ _ ⟨(blk_cell BK346.out 0).trans rfl, (blk_cell BK346.out 1).trans rfl, (blk_cell BK334.out 0).trans rfl, (blk_cell BK334.out 1).trans rfl⟩ (fun hHeld => ?_)
         clear hK K
         refine nm (h := ?_)
         refine one_ (i := 8) (N := some 53) fl34 rfl rfl (one_of HT_.out (by kernel_rfl)) (by decide) (fun K hK => ?_)
         refine goes_ Try.func18 (by kernel_rfl) rfl #[.agg #[.int .i64 a2_0, .int .i64 a2_1], .slice A1_0 (l1_0.take ((ji4) : Int).toNat).length c1_0] (by rfl) rfl rfl (by (try simp only [List.map_toArray, List.map_cons, List.map_nil]); first | done | (rw [TLji4.out] <;> rfl) | (simp only [hji4]; rfl) | rfl | (simp only [List.length_drop, List.length_take]; rfl)) ?_
         with_reducible refine (tripartiteref06_Cut.calls a2_0 a2_1 _ _ (l1_0.take ((ji4) : Int).toNat) t351 _ ?side1 ?side2 A17.out).mono ?_
         (case side1 => repeat (first | exact (Kd.C_below HR335.out HB.out) | (with_reducible refine Kd.C_alloc ?_ _) | (with_reducible refine Kd.C_drewN ?_ _) | (with_reducible refine Kd.C_drew ?_)))
         (case side2 => exact HC335.out)
         rintro e w49 ⟨v352, rfl, ho0, hb⟩
         refine ⟨_, rfl, ?_⟩
         replace HO350 := Aside0.mk (Rd.below (by (with_reducible repeat (first | apply Rd.alloc | apply Rd.drewN | apply Rd.drew)); exact HO350.out) hb rfl)
         have HO353 := Aside0.mk ho0
         replace BK332 := bb hb BK332.out
         replace BK333 := bb hb BK333.out
         replace BK334 := bb hb BK334.out
         replace BK345 := bb hb BK345.out
         replace BK346 := bb hb BK346.out
         replace HB := Aside0.mk (below_step (by repeat (first | (with_reducible first | exact HB.out | apply below_alloc | apply pw_below_drewN | apply below_drew1) | exact HB.out)) hb)
         obtain ⟨Ao50, co50, eo50⟩ := Rd.slice HO350.out
         (first | subst eo50 | (injection eo50 with f1_ f2_ f3_; have f4_ := f1_.symm; have f5_ := f3_.symm; clear f1_ f2_ f3_; subst f4_; subst f5_))
         obtain ⟨Ao51, co51, eo51⟩ := Rd.slice HO353.out
         (first | subst eo51 | (injection eo51 with f1_ f2_ f3_; have f4_ := f1_.symm; have f5_ := f3_.symm; clear f1_ f2_ f3_; subst f4_; subst f5_))
         refine hK.out _ _ ⟨(blk_cell BK346.out 0).trans rfl, (blk_cell BK346.out 1).trans rfl, (blk_cell BK334.out 0).trans rfl, (blk_cell BK334.out 1).trans rfl⟩ (fun hHeld => ?_)
         clear hK K
         refine nm (h := ?_)
         refine one_ (i := 9) (N := some 54) fl35 rfl rfl (one_of HT_.out (by kernel_rfl)) (by decide) (fun K hK => ?_)
         refine goes_ Try.func16 (by kernel_rfl) rfl #[.slice Ao50 t348.length co50, .slice Ao51 t351.length co51] (by rfl) rfl rfl (by (try simp only [List.map_toArray, List.map_cons, List.map_nil]); first | done | rfl | (simp only [List.length_drop, List.length_take]; rfl)) ?_
         with_reducible refine (tripartiteref01_Same.calls k _ _ t348 _ _ t351 true _ ?side1 ?side2 ?side3 ?side4 A18.out).mono ?_
         (case side1 => repeat (first | exact (Rd.reads HO350.out).2 | (with_reducible refine Kd.C_alloc ?_ _) | (with_reducible refine Kd.C_drewN ?_ _) | (with_reducible refine Kd.C_drew ?_)))
         (case side2 => exact (Rd.reads HO350.out).1)
         (case side3 => repeat (first | exact (Rd.reads HO353.out).2 | (with_reducible refine Kd.C_alloc ?_ _) | (with_reducible refine Kd.C_drewN ?_ _) | (with_reducible refine Kd.C_drew ?_)))
         (case side4 => exact (Rd.reads HO353.out).1)
         rintro e w' ⟨rfl, ⟨nd, rfl⟩⟩
         refine ⟨_, rfl, ?_⟩
         replace BK332 := Aside0.mk (blk_drewN BK332.out nd)
         replace BK333 := Aside0.mk (blk_drewN BK333.out nd)
         replace BK334 := Aside0.mk (blk_drewN BK334.out nd)
         replace BK345 := Aside0.mk (blk_drewN BK345.out nd)
         replace BK346 := Aside0.mk (blk_drewN BK346.out nd)
         replace HB := Aside0.mk (pw_below_drewN HB.out nd)
         clear HO350 HO353
         refine hK.out _ _ ⟨(blk_cell BK346.out 0).trans rfl, (blk_cell BK346.out 1).trans rfl, (blk_cell BK334.out 0).trans rfl, (blk_cell BK334.out 1).trans rfl⟩ (fun hHeld => ?_)
         clear hK K
         refine nm (h := ?_)
         refine pu 10 (some 55) fl36 rfl rfl HT_.out (fun _ _ _ h => h) (h := ?_)
         refine pu 11 (some 56) fl37 rfl rfl HT_.out (fun _ _ _ h => h) (h := ?_)
         refine done_ (done_of HT_.out (by kernel_rfl)) ?_
         go_upto_region 6 with (fail)
         go_cut [88] (fun v88 wc => ∃ (kq : Nat) (x88_19 : Bool), v88 = .bool x88_19 ∧ Aside0 (tripartitelaw06_ChunkClasses.j0 kq (l1_0.take ((ji4) : Int).toNat) (l1_1.take ((ji7) : Int).toNat) (l1_2.take ((ji10) : Int).toNat) x88_19 a0_0 a0_1 a0_2 a0_3 a0_4 a0_5 a0_6 t338 t339 t340 t341 t342 t343 t344 = some r) ∧ Aside0 (kq ≤ k) ∧ Aside0 (wc.heap[gb332]? = some (.cells #[.bool a0_0, .int .i64 a0_1, .int .i64 a0_2, .int .i64 a0_3, .int .i64 a0_4, .int .i64 a0_5, .int .i64 a0_6] 43 (0, 0))) ∧ Aside0 (wc.heap[gb333]? = some (.cells #[(.slice A1_0 l1_0.length c1_0), (.slice A1_1 l1_1.length c1_1), (.slice A1_2 l1_2.length c1_2)] 49 (0, 0))) ∧ Aside0 (wc.heap[gb334]? = some (.cells #[.int .i64 a2_0, .int .i64 a2_1] 41 (0, 0))) ∧ Aside0 (wc.heap[gb345]? = some (.cells #[.bool t338, .int .i64 t339, .int .i64 t340, .int .i64 t341, .int .i64 t342, .int .i64 t343, .int .i64 t344] 40 (0, 0))) ∧ Aside0 (wc.heap[gb346]? = some (.cells #[.int .i64 a2_0, .int .i64 a2_1] 38 (0, 0))) ∧ Aside0 (Below w.heap.size w wc))
         case first =>
          have H := HC20.out
          clear HC20
          by_cases c52 : a2_0 ≥ 0
          ·rw [if_pos c52] at H
           have c52b0 : decide (0 ≤ a2_0) = true := decide_eq_true c52
           clear c52
           (first | rw [c52b0] | (simp only [i64_w, i32_w]; rw [c52b0]) | skip)
           by_cases c53 : a2_1 ≥ a2_0
           ·rw [if_pos c53] at H
            have c53b0 : decide (a2_0 ≤ a2_1) = true := decide_eq_true c53
            clear c53
            replace H := Option.bind_eq_some_iff.mp H
            obtain ⟨t355, A540, H⟩ := H
            try dsimp only at H
            have A54 := Aside0.mk A540
            clear A540
            by_cases c55 : t355 = (wrap64 (a2_1 - a2_0))
            ·rw [if_pos c55] at H
             have c55b0 : (t355 == (wrap64 (a2_1 - a2_0))) = true := beq_iff_eq.mpr c55
             have c55b1 : (t355 != (wrap64 (a2_1 - a2_0))) = false := bne_eq_false_iff_eq.mpr c55
             clear c55
             by_cases c56 : a2_1 ≤ a2_0
             ·rw [if_pos c56] at H
              have c56b0 : decide (a2_1 ≤ a2_0) = true := decide_eq_true c56
              clear c56
              replace H := Option.bind_eq_some_iff.mp H
              obtain ⟨t356, A570, H⟩ := H
              try dsimp only at H
              have A57 := Aside0.mk A570
              clear A570
              have H' := Aside0.mk H
              clear H
              try go_wp2
              replace BK332 := Aside0.mk (blk_drew BK332.out)
              replace BK333 := Aside0.mk (blk_drew BK333.out)
              replace BK334 := Aside0.mk (blk_drew BK334.out)
              replace BK345 := Aside0.mk (blk_drew BK345.out)
              replace BK346 := Aside0.mk (blk_drew BK346.out)
              replace HB := Aside0.mk (below_drew1 HB.out)
              refine start_ (n := 32) (S := fun w' => w'.cell? ⟨gb334, 0, none⟩ = some (.int .i64 a2_0) ∧ w'.cell? ⟨gb334, 1, none⟩ = some (.int .i64 a2_1) ∧ w'.cell? ⟨gb346, 0, none⟩ = some (.int .i64 a2_0) ∧ w'.cell? ⟨gb346, 1, none⟩ = some (.int .i64 a2_1)) (ds := []) fl38 (by kernel_rfl) rfl rfl ⟨(blk_cell BK334.out 0).trans rfl, (blk_cell BK334.out 1).trans rfl, (blk_cell BK346.out 0).trans rfl, (blk_cell BK346.out 1).trans rfl⟩ (fun hHeld => ?_); refine with_tabW tripartitelaw06_ChunkClasses.tab6 tripartitelaw06_ChunkClasses.bits6 (fun HT_ HW_ => ?_)
              generalize (w49.drewN nd).drew = w58 at BK332 BK333 BK334 BK345 BK346 HB hHeld ⊢
              refine pu 0 (some 57) fl39 rfl rfl HT_.out (fun _ _ _ h => h) (h := ?_)
              refine tk 1 (some 58) fl40 rfl rfl HT_.out HW_.out (fun _ _ _ h => h) hHeld (hy := by rintro w' ⟨s0, s1, s2, s3⟩; go_simp; with_reducible rfl) (h := ?_)
              refine pu 2 (some 59) fl41 rfl rfl HT_.out (fun _ _ _ h => h) (h := ?_)
              refine pu 3 (some 60) fl42 rfl rfl HT_.out (fun _ _ _ h => h) (h := ?_)
              refine pu 4 (some 61) fl43 rfl rfl HT_.out (fun _ _ _ h => h) (h := ?_)
              refine pu 6 (some 63) fl44 rfl rfl HT_.out (fun _ _ _ h => h) (h := ?_)
              refine tk 5 (some 62) fl45 rfl rfl HT_.out HW_.out (fun _ _ _ h => h) hHeld (hy := by rintro w' ⟨s0, s1, s2, s3⟩; go_simp; with_reducible rfl) (h := ?_)
              refine tk 7 (some 64) fl46 rfl rfl HT_.out HW_.out (fun _ _ _ h => h) hHeld (hy := by rintro w' ⟨s0, s1, s2, s3⟩; go_simp; with_reducible rfl) (h := ?_)
              refine pu 8 (some 65) fl47 rfl rfl HT_.out (fun _ _ _ h => h) (h := ?_)
              refine pu 9 (some 66) fl48 rfl rfl HT_.out (fun _ _ _ h => h) (h := ?_)
              refine pu 10 (some 67) fl49 rfl rfl HT_.out (fun _ _ _ h => h) (h := ?_)
              refine pu 13 (some 70) fl50 rfl rfl HT_.out (fun _ _ _ h => h) (h := ?_)
              refine pu 15 (some 72) fl51 rfl rfl HT_.out (fun _ _ _ h => h) (h := ?_)
              refine tk 11 (some 68) fl52 rfl rfl HT_.out HW_.out (fun _ _ _ h => h) hHeld (hy := by rintro w' ⟨s0, s1, s2, s3⟩; go_simp; with_reducible rfl) (h := ?_)
              refine tk 14 (some 71) fl53 rfl rfl HT_.out HW_.out (fun _ _ _ h => h) hHeld (hy := by rintro w' ⟨s0, s1, s2, s3⟩; go_simp; with_reducible rfl) (h := ?_)
              refine tk 16 (some 73) fl54 rfl rfl HT_.out HW_.out (fun _ _ _ h => h) hHeld (hy := by rintro w' ⟨s0, s1, s2, s3⟩; go_simp; with_reducible rfl) (h := ?_)
              refine pu 17 (some 74) fl55 rfl rfl HT_.out (fun _ _ _ h => h) (h := ?_)
              refine one_ (i := 12) (N := some 69) fl56 rfl rfl (one_of HT_.out (by kernel_rfl)) (by decide) (fun K hK => ?_)
              refine goes_ Try.func14 (by kernel_rfl) rfl #[.agg #[.int .i64 a2_0, .int .i64 a2_1]] (by rfl) rfl rfl (by (try simp only [List.map_toArray, List.map_cons, List.map_nil]); first | done | rfl | (simp only [List.length_drop, List.length_take]; rfl)) ?_
              with_reducible refine (chunk_Span_Len.calls a2_0 a2_1 t355 _ A54.out).mono ?_
              rintro e w59 ⟨rfl, hb⟩
              refine ⟨_, rfl, ?_⟩
              replace BK332 := bb hb BK332.out
              replace BK333 := bb hb BK333.out
              replace BK334 := bb hb BK334.out
              replace BK345 := bb hb BK345.out
              replace BK346 := bb hb BK346.out
              replace HB := Aside0.mk (below_step (by repeat (first | (with_reducible first | exact HB.out | apply below_alloc | apply pw_below_drewN | apply below_drew1) | exact HB.out)) hb)
              refine hK.out _ _ ⟨(blk_cell BK334.out 0).trans rfl, (blk_cell BK334.out 1).trans rfl, (blk_cell BK346.out 0).trans rfl, (blk_cell BK346.out 1).trans rfl⟩ (fun hHeld => ?_)
              clear hK K
              refine nm (h := ?_)
              refine pu 18 (some 75) fl57 rfl rfl HT_.out (fun _ _ _ h => h) (h := ?_)
              refine pu 19 (some 76) fl58 rfl rfl HT_.out (fun _ _ _ h => h) (h := ?_)
              refine pu 20 (some 77) fl59 rfl rfl HT_.out (fun _ _ _ h => h) (h := ?_)
              refine pu 21 (some 78) fl60 rfl rfl HT_.out (fun _ _ _ h => h) (h := ?_)
              refine pu 23 (some 80) fl61 rfl rfl HT_.out (fun _ _ _ h => h) (h := ?_)
              refine tk 22 (some 79) fl62 rfl rfl HT_.out HW_.out (fun _ _ _ h => h) hHeld (hy := by rintro w' ⟨s0, s1, s2, s3⟩; go_simp; with_reducible rfl) (h := ?_)
              refine tk 24 (some 81) fl63 rfl rfl HT_.out HW_.out (fun _ _ _ h => h) hHeld (hy := by rintro w' ⟨s0, s1, s2, s3⟩; go_simp; with_reducible rfl) (h := ?_)
              refine pu 25 (some 82) fl64 rfl rfl HT_.out (fun _ _ _ h => h) (h := ?_)
              refine pu 26 (some 83) fl65 rfl rfl HT_.out (fun _ _ _ h => h) (h := ?_)
              refine tk 27 (some 84) fl66 rfl rfl HT_.out HW_.out (fun _ _ _ h => h) hHeld (hy := by rintro w' ⟨s0, s1, s2, s3⟩; go_simp; with_reducible rfl) (h := ?_)
              refine one_ (i := 28) (N := some 85) fl67 rfl rfl (one_of HT_.out (by kernel_rfl)) (by decide) (fun K hK => ?_)
              refine goes_ Try.func14 (by kernel_rfl) rfl #[.agg #[.int .i64 a2_0, .int .i64 a2_1]] (by rfl) rfl rfl (by (try simp only [List.map_toArray, List.map_cons, List.map_nil]); first | done | rfl | (simp only [List.length_drop, List.length_take]; rfl)) ?_
              with_reducible refine (chunk_Span_Len.calls a2_0 a2_1 t356 _ A57.out).mono ?_
              rintro e w60 ⟨rfl, hb⟩
              refine ⟨_, rfl, ?_⟩
              replace BK332 := bb hb BK332.out
              replace BK333 := bb hb BK333.out
              replace BK334 := bb hb BK334.out
              replace BK345 := bb hb BK345.out
              replace BK346 := bb hb BK346.out
              replace HB := Aside0.mk (below_step (by repeat (first | (with_reducible first | exact HB.out | apply below_alloc | apply pw_below_drewN | apply below_drew1) | exact HB.out)) hb)
              refine hK.out _ _ ⟨(blk_cell BK334.out 0).trans rfl, (blk_cell BK334.out 1).trans rfl, (blk_cell BK346.out 0).trans rfl, (blk_cell BK346.out 1).trans rfl⟩ (fun hHeld => ?_)
              clear hK K
              refine nm (h := ?_)
              refine pu 29 (some 86) fl68 rfl rfl HT_.out (fun _ _ _ h => h) (h := ?_)
              refine pu 30 (some 87) fl69 rfl rfl HT_.out (fun _ _ _ h => h) (h := ?_)
              refine pu 31 (some 88) fl70 rfl rfl HT_.out (fun _ _ _ h => h) (h := ?_)
              refine done_ (done_of HT_.out (by kernel_rfl)) ?_
              try go_wp2
              go_meet
              case rel => exact ⟨_, ((t356 != 0)), (by first | rfl | (simp; done) | (simp [*]; done)), H', ⟨by first | omega | exact Nat.le_refl _⟩, ⟨by (with_reducible repeat (first | refine blk_drewN ?_ _ | refine blk_drew ?_ | refine blk_alloc ?_ _)); exact BK332.out⟩, ⟨by (with_reducible repeat (first | refine blk_drewN ?_ _ | refine blk_drew ?_ | refine blk_alloc ?_ _)); exact BK333.out⟩, ⟨by (with_reducible repeat (first | refine blk_drewN ?_ _ | refine blk_drew ?_ | refine blk_alloc ?_ _)); exact BK334.out⟩, ⟨by (with_reducible repeat (first | refine blk_drewN ?_ _ | refine blk_drew ?_ | refine blk_alloc ?_ _)); exact BK345.out⟩, ⟨by (with_reducible repeat (first | refine blk_drewN ?_ _ | refine blk_drew ?_ | refine blk_alloc ?_ _)); exact BK346.out⟩, ⟨by repeat (first | (with_reducible first | exact HB.out | apply below_alloc | apply pw_below_drewN | apply below_drew1 | refine below_set ?_ GE332.out | refine below_set ?_ GE333.out | refine below_set ?_ GE334.out | refine below_set ?_ GE345.out | refine below_set ?_ GE346.out) | exact HB.out)⟩⟩
             ·rw [if_neg c56] at H
              have c56b0 : decide (a2_1 ≤ a2_0) = false := decide_eq_false c56
              clear c56
              have H' := Aside0.mk H
              clear H
              try go_wp2
              replace BK332 := Aside0.mk (blk_drew BK332.out)
              replace BK333 := Aside0.mk (blk_drew BK333.out)
              replace BK334 := Aside0.mk (blk_drew BK334.out)
              replace BK345 := Aside0.mk (blk_drew BK345.out)
              replace BK346 := Aside0.mk (blk_drew BK346.out)
              replace HB := Aside0.mk (below_drew1 HB.out)
              refine start_ (n := 32) (S := fun w' => w'.cell? ⟨gb334, 0, none⟩ = some (.int .i64 a2_0) ∧ w'.cell? ⟨gb334, 1, none⟩ = some (.int .i64 a2_1) ∧ w'.cell? ⟨gb346, 0, none⟩ = some (.int .i64 a2_0) ∧ w'.cell? ⟨gb346, 1, none⟩ = some (.int .i64 a2_1)) (ds := []) fl38 (by kernel_rfl) rfl rfl ⟨(blk_cell BK334.out 0).trans rfl, (blk_cell BK334.out 1).trans rfl, (blk_cell BK346.out 0).trans rfl, (blk_cell BK346.out 1).trans rfl⟩ (fun hHeld => ?_); refine with_tabW tripartitelaw06_ChunkClasses.tab6 tripartitelaw06_ChunkClasses.bits6 (fun HT_ HW_ => ?_)
              generalize (w49.drewN nd).drew = w61 at BK332 BK333 BK334 BK345 BK346 HB hHeld ⊢
              refine pu 0 (some 57) fl39 rfl rfl HT_.out (fun _ _ _ h => h) (h := ?_)
              refine tk 1 (some 58) fl40 rfl rfl HT_.out HW_.out (fun _ _ _ h => h) hHeld (hy := by rintro w' ⟨s0, s1, s2, s3⟩; go_simp; with_reducible rfl) (h := ?_)
              refine pu 2 (some 59) fl41 rfl rfl HT_.out (fun _ _ _ h => h) (h := ?_)
              refine pu 3 (some 60) fl42 rfl rfl HT_.out (fun _ _ _ h => h) (h := ?_)
              refine pu 4 (some 61) fl43 rfl rfl HT_.out (fun _ _ _ h => h) (h := ?_)
              refine pu 6 (some 63) fl44 rfl rfl HT_.out (fun _ _ _ h => h) (h := ?_)
              refine tk 5 (some 62) fl45 rfl rfl HT_.out HW_.out (fun _ _ _ h => h) hHeld (hy := by rintro w' ⟨s0, s1, s2, s3⟩; go_simp; with_reducible rfl) (h := ?_)
              refine tk 7 (some 64) fl46 rfl rfl HT_.out HW_.out (fun _ _ _ h => h) hHeld (hy := by rintro w' ⟨s0, s1, s2, s3⟩; go_simp; with_reducible rfl) (h := ?_)
              refine pu 8 (some 65) fl47 rfl rfl HT_.out (fun _ _ _ h => h) (h := ?_)
              refine pu 9 (some 66) fl48 rfl rfl HT_.out (fun _ _ _ h => h) (h := ?_)
              refine pu 10 (some 67) fl49 rfl rfl HT_.out (fun _ _ _ h => h) (h := ?_)
              refine pu 13 (some 70) fl50 rfl rfl HT_.out (fun _ _ _ h => h) (h := ?_)
              refine pu 15 (some 72) fl51 rfl rfl HT_.out (fun _ _ _ h => h) (h := ?_)
              refine tk 11 (some 68) fl52 rfl rfl HT_.out HW_.out (fun _ _ _ h => h) hHeld (hy := by rintro w' ⟨s0, s1, s2, s3⟩; go_simp; with_reducible rfl) (h := ?_)
              refine tk 14 (some 71) fl53 rfl rfl HT_.out HW_.out (fun _ _ _ h => h) hHeld (hy := by rintro w' ⟨s0, s1, s2, s3⟩; go_simp; with_reducible rfl) (h := ?_)
              refine tk 16 (some 73) fl54 rfl rfl HT_.out HW_.out (fun _ _ _ h => h) hHeld (hy := by rintro w' ⟨s0, s1, s2, s3⟩; go_simp; with_reducible rfl) (h := ?_)
              refine pu 17 (some 74) fl55 rfl rfl HT_.out (fun _ _ _ h => h) (h := ?_)
              refine one_ (i := 12) (N := some 69) fl56 rfl rfl (one_of HT_.out (by kernel_rfl)) (by decide) (fun K hK => ?_)
              refine goes_ Try.func14 (by kernel_rfl) rfl #[.agg #[.int .i64 a2_0, .int .i64 a2_1]] (by rfl) rfl rfl (by (try simp only [List.map_toArray, List.map_cons, List.map_nil]); first | done | rfl | (simp only [List.length_drop, List.length_take]; rfl)) ?_
              with_reducible refine (chunk_Span_Len.calls a2_0 a2_1 t355 _ A54.out).mono ?_
              rintro e w62 ⟨rfl, hb⟩
              refine ⟨_, rfl, ?_⟩
              replace BK332 := bb hb BK332.out
              replace BK333 := bb hb BK333.out
              replace BK334 := bb hb BK334.out
              replace BK345 := bb hb BK345.out
              replace BK346 := bb hb BK346.out
              replace HB := Aside0.mk (below_step (by repeat (first | (with_reducible first | exact HB.out | apply below_alloc | apply pw_below_drewN | apply below_drew1) | exact HB.out)) hb)
              refine hK.out _ _ ⟨(blk_cell BK334.out 0).trans rfl, (blk_cell BK334.out 1).trans rfl, (blk_cell BK346.out 0).trans rfl, (blk_cell BK346.out 1).trans rfl⟩ (fun hHeld => ?_)
              clear hK K
              refine nm (h := ?_)
              refine pu 18 (some 75) fl57 rfl rfl HT_.out (fun _ _ _ h => h) (h := ?_)
              refine pu 19 (some 76) fl58 rfl rfl HT_.out (fun _ _ _ h => h) (h := ?_)
              refine pu 20 (some 77) fl59 rfl rfl HT_.out (fun _ _ _ h => h) (h := ?_)
              refine pu 21 (some 78) fl60 rfl rfl HT_.out (fun _ _ _ h => h) (h := ?_)
              refine pu 23 (some 80) fl61 rfl rfl HT_.out (fun _ _ _ h => h) (h := ?_)
              refine tk 22 (some 79) fl62 rfl rfl HT_.out HW_.out (fun _ _ _ h => h) hHeld (hy := by rintro w' ⟨s0, s1, s2, s3⟩; go_simp; with_reducible rfl) (h := ?_)
              refine tk 24 (some 81) fl63 rfl rfl HT_.out HW_.out (fun _ _ _ h => h) hHeld (hy := by rintro w' ⟨s0, s1, s2, s3⟩; go_simp; with_reducible rfl) (h := ?_)
              refine pu 25 (some 82) fl64 rfl rfl HT_.out (fun _ _ _ h => h) (h := ?_)
              refine pu 26 (some 83) fl65 rfl rfl HT_.out (fun _ _ _ h => h) (h := ?_)
              refine un 27 (some 84) fl66 rfl rfl HT_.out (fun _ _ _ h => h) (h := ?_)
              refine un 28 (some 85) fl67 rfl rfl HT_.out (fun _ _ _ h => h) (h := ?_)
              refine un 29 (some 86) fl68 rfl rfl HT_.out (fun _ _ _ h => h) (h := ?_)
              refine pu 30 (some 87) fl69 rfl rfl HT_.out (fun _ _ _ h => h) (h := ?_)
              refine pu 31 (some 88) fl70 rfl rfl HT_.out (fun _ _ _ h => h) (h := ?_)
              refine done_ (done_of HT_.out (by kernel_rfl)) ?_
              try go_wp2
              go_meet
              case rel => exact ⟨_, (false), (by first | rfl | (simp; done) | (simp [*]; done)), H', ⟨by first | omega | exact Nat.le_refl _⟩, ⟨by (with_reducible repeat (first | refine blk_drewN ?_ _ | refine blk_drew ?_ | refine blk_alloc ?_ _)); exact BK332.out⟩, ⟨by (with_reducible repeat (first | refine blk_drewN ?_ _ | refine blk_drew ?_ | refine blk_alloc ?_ _)); exact BK333.out⟩, ⟨by (with_reducible repeat (first | refine blk_drewN ?_ _ | refine blk_drew ?_ | refine blk_alloc ?_ _)); exact BK334.out⟩, ⟨by (with_reducible repeat (first | refine blk_drewN ?_ _ | refine blk_drew ?_ | refine blk_alloc ?_ _)); exact BK345.out⟩, ⟨by (with_reducible repeat (first | refine blk_drewN ?_ _ | refine blk_drew ?_ | refine blk_alloc ?_ _)); exact BK346.out⟩, ⟨by repeat (first | (with_reducible first | exact HB.out | apply below_alloc | apply pw_below_drewN | apply below_drew1 | refine below_set ?_ GE332.out | refine below_set ?_ GE333.out | refine below_set ?_ GE334.out | refine below_set ?_ GE345.out | refine below_set ?_ GE346.out) | exact HB.out)⟩⟩
            ·rw [if_neg c55] at H
             exact absurd H (by simp)
           ·rw [if_neg c53] at H
            have c53b0 : decide (a2_0 ≤ a2_1) = false := decide_eq_false c53
            clear c53
            by_cases c63 : a2_1 ≤ a2_0
            ·rw [if_pos c63] at H
             have c63b0 : decide (a2_1 ≤ a2_0) = true := decide_eq_true c63
             clear c63
             replace H := Option.bind_eq_some_iff.mp H
             obtain ⟨t357, A640, H⟩ := H
             try dsimp only at H
             have A64 := Aside0.mk A640
             clear A640
             have H' := Aside0.mk H
             clear H
             try go_wp2
             replace BK332 := Aside0.mk (blk_drew BK332.out)
             replace BK333 := Aside0.mk (blk_drew BK333.out)
             replace BK334 := Aside0.mk (blk_drew BK334.out)
             replace BK345 := Aside0.mk (blk_drew BK345.out)
             replace BK346 := Aside0.mk (blk_drew BK346.out)
             replace HB := Aside0.mk (below_drew1 HB.out)
             refine start_ (n := 32) (S := fun w' => w'.cell? ⟨gb334, 0, none⟩ = some (.int .i64 a2_0) ∧ w'.cell? ⟨gb334, 1, none⟩ = some (.int .i64 a2_1) ∧ w'.cell? ⟨gb346, 0, none⟩ = some (.int .i64 a2_0) ∧ w'.cell? ⟨gb346, 1, none⟩ = some (.int .i64 a2_1)) (ds := []) fl38 (by kernel_rfl) rfl rfl ⟨(blk_cell BK334.out 0).trans rfl, (blk_cell BK334.out 1).trans rfl, (blk_cell BK346.out 0).trans rfl, (blk_cell BK346.out 1).trans rfl⟩ (fun hHeld => ?_); refine with_tabW tripartitelaw06_ChunkClasses.tab6 tripartitelaw06_ChunkClasses.bits6 (fun HT_ HW_ => ?_)
             generalize (w49.drewN nd).drew = w65 at BK332 BK333 BK334 BK345 BK346 HB hHeld ⊢
             refine pu 0 (some 57) fl39 rfl rfl HT_.out (fun _ _ _ h => h) (h := ?_)
             refine tk 1 (some 58) fl40 rfl rfl HT_.out HW_.out (fun _ _ _ h => h) hHeld (hy := by rintro w' ⟨s0, s1, s2, s3⟩; go_simp; with_reducible rfl) (h := ?_)
             refine pu 2 (some 59) fl41 rfl rfl HT_.out (fun _ _ _ h => h) (h := ?_)
             refine pu 3 (some 60) fl42 rfl rfl HT_.out (fun _ _ _ h => h) (h := ?_)
             refine pu 4 (some 61) fl43 rfl rfl HT_.out (fun _ _ _ h => h) (h := ?_)
             refine pu 6 (some 63) fl44 rfl rfl HT_.out (fun _ _ _ h => h) (h := ?_)
             refine tk 5 (some 62) fl45 rfl rfl HT_.out HW_.out (fun _ _ _ h => h) hHeld (hy := by rintro w' ⟨s0, s1, s2, s3⟩; go_simp; with_reducible rfl) (h := ?_)
             refine tk 7 (some 64) fl46 rfl rfl HT_.out HW_.out (fun _ _ _ h => h) hHeld (hy := by rintro w' ⟨s0, s1, s2, s3⟩; go_simp; with_reducible rfl) (h := ?_)
             refine pu 8 (some 65) fl47 rfl rfl HT_.out (fun _ _ _ h => h) (h := ?_)
             refine pu 9 (some 66) fl48 rfl rfl HT_.out (fun _ _ _ h => h) (h := ?_)
             refine pu 10 (some 67) fl49 rfl rfl HT_.out (fun _ _ _ h => h) (h := ?_)
             refine un 11 (some 68) fl71 rfl rfl HT_.out (fun _ _ _ h => h) (h := ?_)
             refine un 12 (some 69) fl72 rfl rfl HT_.out (fun _ _ _ h => h) (h := ?_)
             refine un 13 (some 70) fl73 rfl rfl HT_.out (fun _ _ _ h => h) (h := ?_)
             refine un 14 (some 71) fl74 rfl rfl HT_.out (fun _ _ _ h => h) (h := ?_)
             refine un 15 (some 72) fl75 rfl rfl HT_.out (fun _ _ _ h => h) (h := ?_)
             refine un 16 (some 73) fl76 rfl rfl HT_.out (fun _ _ _ h => h) (h := ?_)
             refine un 17 (some 74) fl56 rfl rfl HT_.out (fun _ _ _ h => h) (h := ?_)
             refine un 18 (some 75) fl57 rfl rfl HT_.out (fun _ _ _ h => h) (h := ?_)
             refine pu 19 (some 76) fl58 rfl rfl HT_.out (fun _ _ _ h => h) (h := ?_)
             refine pu 20 (some 77) fl59 rfl rfl HT_.out (fun _ _ _ h => h) (h := ?_)
             refine pu 21 (some 78) fl60 rfl rfl HT_.out (fun _ _ _ h => h) (h := ?_)
             refine pu 23 (some 80) fl61 rfl rfl HT_.out (fun _ _ _ h => h) (h := ?_)
             refine tk 22 (some 79) fl62 rfl rfl HT_.out HW_.out (fun _ _ _ h => h) hHeld (hy := by rintro w' ⟨s0, s1, s2, s3⟩; go_simp; with_reducible rfl) (h := ?_)
             refine tk 24 (some 81) fl63 rfl rfl HT_.out HW_.out (fun _ _ _ h => h) hHeld (hy := by rintro w' ⟨s0, s1, s2, s3⟩; go_simp; with_reducible rfl) (h := ?_)
             refine pu 25 (some 82) fl64 rfl rfl HT_.out (fun _ _ _ h => h) (h := ?_)
             refine pu 26 (some 83) fl65 rfl rfl HT_.out (fun _ _ _ h => h) (h := ?_)
             refine tk 27 (some 84) fl66 rfl rfl HT_.out HW_.out (fun _ _ _ h => h) hHeld (hy := by rintro w' ⟨s0, s1, s2, s3⟩; go_simp; with_reducible rfl) (h := ?_)
             refine one_ (i := 28) (N := some 85) fl67 rfl rfl (one_of HT_.out (by kernel_rfl)) (by decide) (fun K hK => ?_)
             refine goes_ Try.func14 (by kernel_rfl) rfl #[.agg #[.int .i64 a2_0, .int .i64 a2_1]] (by rfl) rfl rfl (by (try simp only [List.map_toArray, List.map_cons, List.map_nil]); first | done | rfl | (simp only [List.length_drop, List.length_take]; rfl)) ?_
             with_reducible refine (chunk_Span_Len.calls a2_0 a2_1 t357 _ A64.out).mono ?_
             rintro e w66 ⟨rfl, hb⟩
             refine ⟨_, rfl, ?_⟩
             replace BK332 := bb hb BK332.out
             replace BK333 := bb hb BK333.out
             replace BK334 := bb hb BK334.out
             replace BK345 := bb hb BK345.out
             replace BK346 := bb hb BK346.out
             replace HB := Aside0.mk (below_step (by repeat (first | (with_reducible first | exact HB.out | apply below_alloc | apply pw_below_drewN | apply below_drew1) | exact HB.out)) hb)
             refine hK.out _ _ ⟨(blk_cell BK334.out 0).trans rfl, (blk_cell BK334.out 1).trans rfl, (blk_cell BK346.out 0).trans rfl, (blk_cell BK346.out 1).trans rfl⟩ (fun hHeld => ?_)
             clear hK K
             refine nm (h := ?_)
             refine pu 29 (some 86) fl68 rfl rfl HT_.out (fun _ _ _ h => h) (h := ?_)
             refine pu 30 (some 87) fl69 rfl rfl HT_.out (fun _ _ _ h => h) (h := ?_)
             refine pu 31 (some 88) fl70 rfl rfl HT_.out (fun _ _ _ h => h) (h := ?_)
             refine done_ (done_of HT_.out (by kernel_rfl)) ?_
             try go_wp2
             go_meet
             case rel => exact ⟨_, ((t357 != 0)), (by first | rfl | (simp; done) | (simp [*]; done)), H', ⟨by first | omega | exact Nat.le_refl _⟩, ⟨by (with_reducible repeat (first | refine blk_drewN ?_ _ | refine blk_drew ?_ | refine blk_alloc ?_ _)); exact BK332.out⟩, ⟨by (with_reducible repeat (first | refine blk_drewN ?_ _ | refine blk_drew ?_ | refine blk_alloc ?_ _)); exact BK333.out⟩, ⟨by (with_reducible repeat (first | refine blk_drewN ?_ _ | refine blk_drew ?_ | refine blk_alloc ?_ _)); exact BK334.out⟩, ⟨by (with_reducible repeat (first | refine blk_drewN ?_ _ | refine blk_drew ?_ | refine blk_alloc ?_ _)); exact BK345.out⟩, ⟨by (with_reducible repeat (first | refine blk_drewN ?_ _ | refine blk_drew ?_ | refine blk_alloc ?_ _)); exact BK346.out⟩, ⟨by repeat (first | (with_reducible first | exact HB.out | apply below_alloc | apply pw_below_drewN | apply below_drew1 | refine below_set ?_ GE332.out | refine below_set ?_ GE333.out | refine below_set ?_ GE334.out | refine below_set ?_ GE345.out | refine below_set ?_ GE346.out) | exact HB.out)⟩⟩
            ·exfalso
             have x_ := of_decide_eq_false c53b0
             omega
          ·rw [if_neg c52] at H
           have c52b0 : decide (0 ≤ a2_0) = false := decide_eq_false c52
           clear c52
           (first | rw [c52b0] | (simp only [i64_w, i32_w]; rw [c52b0]) | skip)
           by_cases c68 : a2_1 ≤ a2_0
           ·rw [if_pos c68] at H
            have c68b0 : decide (a2_1 ≤ a2_0) = true := decide_eq_true c68
            clear c68
            replace H := Option.bind_eq_some_iff.mp H
            obtain ⟨t358, A690, H⟩ := H
            try dsimp only at H
            have A69 := Aside0.mk A690
            clear A690
            have H' := Aside0.mk H
            clear H
            try go_wp2
            replace BK332 := Aside0.mk (blk_drew BK332.out)
            replace BK333 := Aside0.mk (blk_drew BK333.out)
            replace BK334 := Aside0.mk (blk_drew BK334.out)
            replace BK345 := Aside0.mk (blk_drew BK345.out)
            replace BK346 := Aside0.mk (blk_drew BK346.out)
            replace HB := Aside0.mk (below_drew1 HB.out)
            refine start_ (n := 32) (S := fun w' => w'.cell? ⟨gb334, 0, none⟩ = some (.int .i64 a2_0) ∧ w'.cell? ⟨gb334, 1, none⟩ = some (.int .i64 a2_1) ∧ w'.cell? ⟨gb346, 0, none⟩ = some (.int .i64 a2_0) ∧ w'.cell? ⟨gb346, 1, none⟩ = some (.int .i64 a2_1)) (ds := []) fl38 (by kernel_rfl) rfl rfl ⟨(blk_cell BK334.out 0).trans rfl, (blk_cell BK334.out 1).trans rfl, (blk_cell BK346.out 0).trans rfl, (blk_cell BK346.out 1).trans rfl⟩ (fun hHeld => ?_); refine with_tabW tripartitelaw06_ChunkClasses.tab6 tripartitelaw06_ChunkClasses.bits6 (fun HT_ HW_ => ?_)
            generalize (w49.drewN nd).drew = w70 at BK332 BK333 BK334 BK345 BK346 HB hHeld ⊢
            refine pu 0 (some 57) fl39 rfl rfl HT_.out (fun _ _ _ h => h) (h := ?_)
            refine tk 1 (some 58) fl40 rfl rfl HT_.out HW_.out (fun _ _ _ h => h) hHeld (hy := by rintro w' ⟨s0, s1, s2, s3⟩; go_simp; with_reducible rfl) (h := ?_)
            refine pu 2 (some 59) fl41 rfl rfl HT_.out (fun _ _ _ h => h) (h := ?_)
            refine pu 3 (some 60) fl42 rfl rfl HT_.out (fun _ _ _ h => h) (h := ?_)
            refine un 4 (some 61) fl43 rfl rfl HT_.out (fun _ _ _ h => h) (h := ?_)
            refine un 5 (some 62) fl77 rfl rfl HT_.out (fun _ _ _ h => h) (h := ?_)
            refine un 6 (some 63) fl45 rfl rfl HT_.out (fun _ _ _ h => h) (h := ?_)
            refine un 7 (some 64) fl46 rfl rfl HT_.out (fun _ _ _ h => h) (h := ?_)
            refine un 8 (some 65) fl47 rfl rfl HT_.out (fun _ _ _ h => h) (h := ?_)
            refine pu 9 (some 66) fl48 rfl rfl HT_.out (fun _ _ _ h => h) (h := ?_)
            refine pu 10 (some 67) fl49 rfl rfl HT_.out (fun _ _ _ h => h) (h := ?_)
            refine un 11 (some 68) fl71 rfl rfl HT_.out (fun _ _ _ h => h) (h := ?_)
            refine un 12 (some 69) fl72 rfl rfl HT_.out (fun _ _ _ h => h) (h := ?_)
            refine un 13 (some 70) fl73 rfl rfl HT_.out (fun _ _ _ h => h) (h := ?_)
            refine un 14 (some 71) fl74 rfl rfl HT_.out (fun _ _ _ h => h) (h := ?_)
            refine un 15 (some 72) fl75 rfl rfl HT_.out (fun _ _ _ h => h) (h := ?_)
            refine un 16 (some 73) fl76 rfl rfl HT_.out (fun _ _ _ h => h) (h := ?_)
            refine un 17 (some 74) fl56 rfl rfl HT_.out (fun _ _ _ h => h) (h := ?_)
            refine un 18 (some 75) fl57 rfl rfl HT_.out (fun _ _ _ h => h) (h := ?_)
            refine pu 19 (some 76) fl58 rfl rfl HT_.out (fun _ _ _ h => h) (h := ?_)
            refine pu 20 (some 77) fl59 rfl rfl HT_.out (fun _ _ _ h => h) (h := ?_)
            refine pu 21 (some 78) fl60 rfl rfl HT_.out (fun _ _ _ h => h) (h := ?_)
            refine pu 23 (some 80) fl61 rfl rfl HT_.out (fun _ _ _ h => h) (h := ?_)
            refine tk 22 (some 79) fl62 rfl rfl HT_.out HW_.out (fun _ _ _ h => h) hHeld (hy := by rintro w' ⟨s0, s1, s2, s3⟩; go_simp; with_reducible rfl) (h := ?_)
            refine tk 24 (some 81) fl63 rfl rfl HT_.out HW_.out (fun _ _ _ h => h) hHeld (hy := by rintro w' ⟨s0, s1, s2, s3⟩; go_simp; with_reducible rfl) (h := ?_)
            refine pu 25 (some 82) fl64 rfl rfl HT_.out (fun _ _ _ h => h) (h := ?_)
            refine pu 26 (some 83) fl65 rfl rfl HT_.out (fun _ _ _ h => h) (h := ?_)
            refine tk 27 (some 84) fl66 rfl rfl HT_.out HW_.out (fun _ _ _ h => h) hHeld (hy := by rintro w' ⟨s0, s1, s2, s3⟩; go_simp; with_reducible rfl) (h := ?_)
            refine one_ (i := 28) (N := some 85) fl67 rfl rfl (one_of HT_.out (by kernel_rfl)) (by decide) (fun K hK => ?_)
            refine goes_ Try.func14 (by kernel_rfl) rfl #[.agg #[.int .i64 a2_0, .int .i64 a2_1]] (by rfl) rfl rfl (by (try simp only [List.map_toArray, List.map_cons, List.map_nil]); first | done | rfl | (simp only [List.length_drop, List.length_take]; rfl)) ?_
            with_reducible refine (chunk_Span_Len.calls a2_0 a2_1 t358 _ A69.out).mono ?_
            rintro e w71 ⟨rfl, hb⟩
            refine ⟨_, rfl, ?_⟩
            replace BK332 := bb hb BK332.out
            replace BK333 := bb hb BK333.out
            replace BK334 := bb hb BK334.out
            replace BK345 := bb hb BK345.out
            replace BK346 := bb hb BK346.out
            replace HB := Aside0.mk (below_step (by repeat (first | (with_reducible first | exact HB.out | apply below_alloc | apply pw_below_drewN | apply below_drew1) | exact HB.out)) hb)
            refine hK.out _ _ ⟨(blk_cell BK334.out 0).trans rfl, (blk_cell BK334.out 1).trans rfl, (blk_cell BK346.out 0).trans rfl, (blk_cell BK346.out 1).trans rfl⟩ (fun hHeld => ?_)
            clear hK K
            refine nm (h := ?_)
            refine pu 29 (some 86) fl68 rfl rfl HT_.out (fun _ _ _ h => h) (h := ?_)
            refine pu 30 (some 87) fl69 rfl rfl HT_.out (fun _ _ _ h => h) (h := ?_)
            refine pu 31 (some 88) fl70 rfl rfl HT_.out (fun _ _ _ h => h) (h := ?_)
            refine done_ (done_of HT_.out (by kernel_rfl)) ?_
            try go_wp2
            go_meet
            case rel => exact ⟨_, ((t358 != 0)), (by first | rfl | (simp; done) | (simp [*]; done)), H', ⟨by first | omega | exact Nat.le_refl _⟩, ⟨by (with_reducible repeat (first | refine blk_drewN ?_ _ | refine blk_drew ?_ | refine blk_alloc ?_ _)); exact BK332.out⟩, ⟨by (with_reducible repeat (first | refine blk_drewN ?_ _ | refine blk_drew ?_ | refine blk_alloc ?_ _)); exact BK333.out⟩, ⟨by (with_reducible repeat (first | refine blk_drewN ?_ _ | refine blk_drew ?_ | refine blk_alloc ?_ _)); exact BK334.out⟩, ⟨by (with_reducible repeat (first | refine blk_drewN ?_ _ | refine blk_drew ?_ | refine blk_alloc ?_ _)); exact BK345.out⟩, ⟨by (with_reducible repeat (first | refine blk_drewN ?_ _ | refine blk_drew ?_ | refine blk_alloc ?_ _)); exact BK346.out⟩, ⟨by repeat (first | (with_reducible first | exact HB.out | apply below_alloc | apply pw_below_drewN | apply below_drew1 | refine below_set ?_ GE332.out | refine below_set ?_ GE333.out | refine below_set ?_ GE334.out | refine below_set ?_ GE345.out | refine below_set ?_ GE346.out) | exact HB.out)⟩⟩
           ·rw [if_neg c68] at H
            have c68b0 : decide (a2_1 ≤ a2_0) = false := decide_eq_false c68
            clear c68
            have H' := Aside0.mk H
            clear H
            try go_wp2
            replace BK332 := Aside0.mk (blk_drew BK332.out)
            replace BK333 := Aside0.mk (blk_drew BK333.out)
            replace BK334 := Aside0.mk (blk_drew BK334.out)
            replace BK345 := Aside0.mk (blk_drew BK345.out)
            replace BK346 := Aside0.mk (blk_drew BK346.out)
            replace HB := Aside0.mk (below_drew1 HB.out)
            refine start_ (n := 32) (S := fun w' => w'.cell? ⟨gb334, 0, none⟩ = some (.int .i64 a2_0) ∧ w'.cell? ⟨gb334, 1, none⟩ = some (.int .i64 a2_1)) (ds := []) fl38 (by kernel_rfl) rfl rfl ⟨(blk_cell BK334.out 0).trans rfl, (blk_cell BK334.out 1).trans rfl⟩ (fun hHeld => ?_); refine with_tabW tripartitelaw06_ChunkClasses.tab6 tripartitelaw06_ChunkClasses.bits6 (fun HT_ HW_ => ?_)
            generalize (w49.drewN nd).drew = w72 at BK332 BK333 BK334 BK345 BK346 HB hHeld ⊢
            refine pu 0 (some 57) fl39 rfl rfl HT_.out (fun _ _ _ h => h) (h := ?_)
            refine tk 1 (some 58) fl40 rfl rfl HT_.out HW_.out (fun _ _ _ h => h) hHeld (hy := by rintro w' ⟨s0, s1⟩; go_simp; with_reducible rfl) (h := ?_)
            refine pu 2 (some 59) fl41 rfl rfl HT_.out (fun _ _ _ h => h) (h := ?_)
            refine pu 3 (some 60) fl42 rfl rfl HT_.out (fun _ _ _ h => h) (h := ?_)
            refine un 4 (some 61) fl43 rfl rfl HT_.out (fun _ _ _ h => h) (h := ?_)
            refine un 5 (some 62) fl77 rfl rfl HT_.out (fun _ _ _ h => h) (h := ?_)
            refine un 6 (some 63) fl45 rfl rfl HT_.out (fun _ _ _ h => h) (h := ?_)
            refine un 7 (some 64) fl46 rfl rfl HT_.out (fun _ _ _ h => h) (h := ?_)
            refine un 8 (some 65) fl47 rfl rfl HT_.out (fun _ _ _ h => h) (h := ?_)
            refine pu 9 (some 66) fl48 rfl rfl HT_.out (fun _ _ _ h => h) (h := ?_)
            refine pu 10 (some 67) fl49 rfl rfl HT_.out (fun _ _ _ h => h) (h := ?_)
            refine un 11 (some 68) fl71 rfl rfl HT_.out (fun _ _ _ h => h) (h := ?_)
            refine un 12 (some 69) fl72 rfl rfl HT_.out (fun _ _ _ h => h) (h := ?_)
            refine un 13 (some 70) fl73 rfl rfl HT_.out (fun _ _ _ h => h) (h := ?_)
            refine un 14 (some 71) fl74 rfl rfl HT_.out (fun _ _ _ h => h) (h := ?_)
            refine un 15 (some 72) fl75 rfl rfl HT_.out (fun _ _ _ h => h) (h := ?_)
            refine un 16 (some 73) fl76 rfl rfl HT_.out (fun _ _ _ h => h) (h := ?_)
            refine un 17 (some 74) fl56 rfl rfl HT_.out (fun _ _ _ h => h) (h := ?_)
            refine un 18 (some 75) fl57 rfl rfl HT_.out (fun _ _ _ h => h) (h := ?_)
            refine pu 19 (some 76) fl58 rfl rfl HT_.out (fun _ _ _ h => h) (h := ?_)
            refine pu 20 (some 77) fl59 rfl rfl HT_.out (fun _ _ _ h => h) (h := ?_)
            refine pu 21 (some 78) fl60 rfl rfl HT_.out (fun _ _ _ h => h) (h := ?_)
            refine pu 23 (some 80) fl61 rfl rfl HT_.out (fun _ _ _ h => h) (h := ?_)
            refine tk 22 (some 79) fl62 rfl rfl HT_.out HW_.out (fun _ _ _ h => h) hHeld (hy := by rintro w' ⟨s0, s1⟩; go_simp; with_reducible rfl) (h := ?_)
            refine tk 24 (some 81) fl63 rfl rfl HT_.out HW_.out (fun _ _ _ h => h) hHeld (hy := by rintro w' ⟨s0, s1⟩; go_simp; with_reducible rfl) (h := ?_)
            refine pu 25 (some 82) fl64 rfl rfl HT_.out (fun _ _ _ h => h) (h := ?_)
            refine pu 26 (some 83) fl65 rfl rfl HT_.out (fun _ _ _ h => h) (h := ?_)
            refine un 27 (some 84) fl66 rfl rfl HT_.out (fun _ _ _ h => h) (h := ?_)
            refine un 28 (some 85) fl67 rfl rfl HT_.out (fun _ _ _ h => h) (h := ?_)
            refine un 29 (some 86) fl68 rfl rfl HT_.out (fun _ _ _ h => h) (h := ?_)
            refine pu 30 (some 87) fl69 rfl rfl HT_.out (fun _ _ _ h => h) (h := ?_)
            refine pu 31 (some 88) fl70 rfl rfl HT_.out (fun _ _ _ h => h) (h := ?_)
            refine done_ (done_of HT_.out (by kernel_rfl)) ?_
            try go_wp2
            go_meet
            case rel => exact ⟨_, (false), (by first | rfl | (simp; done) | (simp [*]; done)), H', ⟨by first | omega | exact Nat.le_refl _⟩, ⟨by (with_reducible repeat (first | refine blk_drewN ?_ _ | refine blk_drew ?_ | refine blk_alloc ?_ _)); exact BK332.out⟩, ⟨by (with_reducible repeat (first | refine blk_drewN ?_ _ | refine blk_drew ?_ | refine blk_alloc ?_ _)); exact BK333.out⟩, ⟨by (with_reducible repeat (first | refine blk_drewN ?_ _ | refine blk_drew ?_ | refine blk_alloc ?_ _)); exact BK334.out⟩, ⟨by (with_reducible repeat (first | refine blk_drewN ?_ _ | refine blk_drew ?_ | refine blk_alloc ?_ _)); exact BK345.out⟩, ⟨by (with_reducible repeat (first | refine blk_drewN ?_ _ | refine blk_drew ?_ | refine blk_alloc ?_ _)); exact BK346.out⟩, ⟨by repeat (first | (with_reducible first | exact HB.out | apply below_alloc | apply pw_below_drewN | apply below_drew1 | refine below_set ?_ GE332.out | refine below_set ?_ GE333.out | refine below_set ?_ GE334.out | refine below_set ?_ GE345.out | refine below_set ?_ GE346.out) | exact HB.out)⟩⟩
         case rest =>
          clear HC20
          try clear c1
          try clear p2
          try clear c5
          try clear c6
          try clear c14
          try clear c52
          try clear c52b0
          try clear c68
          try clear c68b0
          obtain ⟨kq, x88_19, rfl, HA, HJ19, BK332, BK333, BK334, BK345, BK346, HB⟩ := hcut
          cases kq with
          | zero => exact absurd HA.out (by simp [tripartitelaw06_ChunkClasses.j0])
          | succ kj19 =>
           have H := HA.out
           clear HA
           simp only [tripartitelaw06_ChunkClasses.j0] at H
           by_cases c73 : x88_19 = true
           ·subst c73
            have H1 : (none) = some r := by rw [if_pos rfl] at H; exact H
            clear H
            have H := H1
            clear H1
            exact absurd H (by simp)
           ·replace c73 := Bool.eq_false_iff.mpr c73
            subst c73
            have H1 : ((some (([(⟨a0_1, a0_2⟩ : S41), (⟨a0_3, a0_4⟩ : S41), (⟨a0_5, a0_6⟩ : S41)] : List (S41)) : List (S41))).bind fun y359 => (tripartitelaw06_ChunkClasses.l0 kj19 (l1_0.take ((ji4) : Int).toNat) (l1_1.take ((ji7) : Int).toNat) (l1_2.take ((ji10) : Int).toNat) y359 (y359.length : Int) 0 a0_0 a0_1 a0_2 a0_3 a0_4 a0_5 a0_6 t338 t339 t340 t341 t342 t343 t344)) = some r := by rw [if_neg (show ¬ (false = true) by decide)] at H; exact H
            clear H
            have H := H1
            clear H1
            obtain ⟨y359, hy359⟩ : ∃ y_ : List (S41), y_ = (([(⟨a0_1, a0_2⟩ : S41), (⟨a0_3, a0_4⟩ : S41), (⟨a0_5, a0_6⟩ : S41)] : List (S41))) := ⟨_, rfl⟩
            replace H : (tripartitelaw06_ChunkClasses.l0 kj19 (l1_0.take ((ji4) : Int).toNat) (l1_1.take ((ji7) : Int).toNat) (l1_2.take ((ji10) : Int).toNat) y359 (y359.length : Int) 0 a0_0 a0_1 a0_2 a0_3 a0_4 a0_5 a0_6 t338 t339 t340 t341 t342 t343 t344) = some r := by first | (rw [hy359]; with_reducible exact H) | (have H2_ := (Option.bind_some _ _).symm.trans H; rw [hy359]; with_reducible exact H2_) | (have H2_ := (Option.bind_some _ _).symm.trans H; with_reducible exact H2_) | with_reducible exact H | (rw [hy359]; exact H) | exact H
            have Ny359 := Aside0.mk hy359
            clear hy359
            have H' := Aside0.mk H
            clear H
            have hnb74 := NB332_333.out
            have hnc74 := NB333_332.out
            have hnb75 := NB332_334.out
            have hnc75 := NB334_332.out
            have hnb76 := NB332_345.out
            have hnc76 := NB345_332.out
            have hnb77 := NB332_346.out
            have hnc77 := NB346_332.out
            have hcz78_0 : wc.cell? ⟨gb332, 0, none⟩ = some (.bool a0_0) := (blk_cell BK332.out 0).trans rfl
            have hcz78_1 : wc.cell? ⟨gb332, 1, none⟩ = some (.int .i64 a0_1) := (blk_cell BK332.out 1).trans rfl
            have hcz78_2 : wc.cell? ⟨gb332, 2, none⟩ = some (.int .i64 a0_2) := (blk_cell BK332.out 2).trans rfl
            have hcz78_3 : wc.cell? ⟨gb332, 3, none⟩ = some (.int .i64 a0_3) := (blk_cell BK332.out 3).trans rfl
            have hcz78_4 : wc.cell? ⟨gb332, 4, none⟩ = some (.int .i64 a0_4) := (blk_cell BK332.out 4).trans rfl
            have hcz78_5 : wc.cell? ⟨gb332, 5, none⟩ = some (.int .i64 a0_5) := (blk_cell BK332.out 5).trans rfl
            have hcz78_6 : wc.cell? ⟨gb332, 6, none⟩ = some (.int .i64 a0_6) := (blk_cell BK332.out 6).trans rfl
            have hfz78_0 := blk_frozen BK332.out 0
            have hfz78_1 := blk_frozen BK332.out 1
            have hfz78_2 := blk_frozen BK332.out 2
            have hfz78_3 := blk_frozen BK332.out 3
            have hfz78_4 := blk_frozen BK332.out 4
            have hfz78_5 := blk_frozen BK332.out 5
            have hfz78_6 := blk_frozen BK332.out 6
            go_wp2_with (first | ((with_reducible refine gate_dst (N := 95) rfl ?_); (try (refine gate_guard (by rfl) ?_; dsimp only)); refine Kd.R_lit k41 _ 41 ?hg (N := 95) ?hd (xs := ([(⟨a0_1, a0_2⟩ : S41), (⟨a0_3, a0_4⟩ : S41), (⟨a0_5, a0_6⟩ : S41)] : List (S41))) (inner := [.int .i64 a0_1, .int .i64 a0_2, .int .i64 a0_3, .int .i64 a0_4, .int .i64 a0_5, .int .i64 a0_6]) (ok := fun _ => True) (okp := fun _ => True) ?hr ?hp (fun _ hk => hk) trivial (Below.refl _ _) (Nat.le_refl _) (by simp) ?_; (case hd => rfl); (case hg => rfl); (case hr => first | (go_simp; done) | (go_simp; rfl)); (case hp => exact (Reps.c2 (show Kd.M k41 _ _ _ (⟨a0_1, a0_2⟩ : S41) [.int .i64 a0_1, .int .i64 a0_2] from (k41_mkM _ _ _ (⟨a0_1, a0_2⟩ : S41) )) (Reps.c2 (show Kd.M k41 _ _ _ (⟨a0_3, a0_4⟩ : S41) [.int .i64 a0_3, .int .i64 a0_4] from (k41_mkM _ _ _ (⟨a0_3, a0_4⟩ : S41) )) (Reps.c2 (show Kd.M k41 _ _ _ (⟨a0_5, a0_6⟩ : S41) [.int .i64 a0_5, .int .i64 a0_6] from (k41_mkM _ _ _ (⟨a0_5, a0_6⟩ : S41) )) (Reps.none _ _))))); intro v360 w79 ho80 hb hg_ hnew_; clear hg_ hnew_; (first | rw [← Ny359.out] at ho80 | (simp only [Int.reduceToNat] at ho80; rw [← Ny359.out] at ho80)); have n0_ := Aside0.mk (Kd.R_lower (Kd.R_newB ho80 (g := gb334) (o := .cells #[.int .i64 a2_0, .int .i64 a2_1] 41 (0, 0)) (by (with_reducible repeat (first | refine blk_drewN ?_ _ | refine blk_drew ?_ | refine blk_alloc ?_ _)); exact BK334.out)) (below_size (by repeat (first | (with_reducible first | exact HB.out | apply below_alloc | apply pw_below_drewN | apply below_drew1 | refine below_set ?_ GE332.out | refine below_set ?_ GE333.out | refine below_set ?_ GE334.out | refine below_set ?_ GE345.out | refine below_set ?_ GE346.out) | exact HB.out)))); have n1_ := bb hb BK332.out; have n2_ := bb hb BK333.out; have n3_ := bb hb BK334.out; have n4_ := bb hb BK345.out; have n5_ := bb hb BK346.out; have n6_ := Aside0.mk (below_step (by repeat (first | (with_reducible first | exact HB.out | apply below_alloc | apply pw_below_drewN | apply below_drew1 | refine below_set ?_ GE332.out | refine below_set ?_ GE333.out | refine below_set ?_ GE334.out | refine below_set ?_ GE345.out | refine below_set ?_ GE346.out) | exact HB.out)) hb); clear BK332; clear BK333; clear BK334; clear BK345; clear BK346; clear HB; have HO361 := n0_; have BK332 := n1_; have BK333 := n2_; have BK334 := n3_; have BK345 := n4_; have BK346 := n5_; have HB := n6_; clear n0_ n1_ n2_ n3_ n4_ n5_ n6_; clear hb ho80; obtain ⟨Ao81, co81, eo81⟩ := Kd.R_slice HO361.out; subst eo81))
            go_loopg [97] kj19 (fun kq v97 w' => ∃ (x97_2 : Int), v97 = .int .i64 x97_2 ∧ Aside0 (tripartitelaw06_ChunkClasses.l0 kq (l1_0.take ((ji4) : Int).toNat) (l1_1.take ((ji7) : Int).toNat) (l1_2.take ((ji10) : Int).toNat) y359 (y359.length : Int) x97_2 a0_0 a0_1 a0_2 a0_3 a0_4 a0_5 a0_6 t338 t339 t340 t341 t342 t343 t344 = some r) ∧ Aside0 (kq ≤ kj19) ∧ Aside0 (Kd.R k41 41 w' w.heap.size (fun k_ => k_ ≠ gb334) (.slice Ao81 y359.length co81) y359) ∧ Aside0 (w'.heap[gb332]? = some (.cells #[.bool a0_0, .int .i64 a0_1, .int .i64 a0_2, .int .i64 a0_3, .int .i64 a0_4, .int .i64 a0_5, .int .i64 a0_6] 43 (0, 0))) ∧ Aside0 (w'.heap[gb333]? = some (.cells #[(.slice A1_0 l1_0.length c1_0), (.slice A1_1 l1_1.length c1_1), (.slice A1_2 l1_2.length c1_2)] 49 (0, 0))) ∧ Aside0 (w'.heap[gb334]? = some (.cells #[.int .i64 a2_0, .int .i64 a2_1] 41 (0, 0))) ∧ Aside0 (w'.heap[gb345]? = some (.cells #[.bool t338, .int .i64 t339, .int .i64 t340, .int .i64 t341, .int .i64 t342, .int .i64 t343, .int .i64 t344] 40 (0, 0))) ∧ Aside0 (w'.heap[gb346]? = some (.cells #[.int .i64 a2_0, .int .i64 a2_1] 38 (0, 0))) ∧ Aside0 (Below w.heap.size w w'))
            case atStart => exact ⟨(0), (by first | rfl | (simp; done) | (simp [*]; done)), H', ⟨Nat.le_refl _⟩, ⟨by (with_reducible repeat (first | apply Kd.R_alloc | apply Kd.R_drewN | apply Kd.R_drew)); exact Kd.R_mono HO361.out (fun _ hk => hk.2)⟩, ⟨by (with_reducible repeat (first | refine blk_drewN ?_ _ | refine blk_drew ?_ | refine blk_alloc ?_ _)); exact BK332.out⟩, ⟨by (with_reducible repeat (first | refine blk_drewN ?_ _ | refine blk_drew ?_ | refine blk_alloc ?_ _)); exact BK333.out⟩, ⟨by (with_reducible repeat (first | refine blk_drewN ?_ _ | refine blk_drew ?_ | refine blk_alloc ?_ _)); exact BK334.out⟩, ⟨by (with_reducible repeat (first | refine blk_drewN ?_ _ | refine blk_drew ?_ | refine blk_alloc ?_ _)); exact BK345.out⟩, ⟨by (with_reducible repeat (first | refine blk_drewN ?_ _ | refine blk_drew ?_ | refine blk_alloc ?_ _)); exact BK346.out⟩, ⟨by repeat (first | (with_reducible first | exact HB.out | apply below_alloc | apply pw_below_drewN | apply below_drew1 | refine below_set ?_ GE332.out | refine below_set ?_ GE333.out | refine below_set ?_ GE334.out | refine below_set ?_ GE345.out | refine below_set ?_ GE346.out) | exact HB.out)⟩⟩
            case round =>
             clear H'
             try clear c1
             try clear c2
             try clear p2
             try clear c5
             try clear c6
             try clear c7
             try clear c14
             try clear c52
             try clear c52b0
             try clear c68
             try clear c68b0
             try clear c73
             try clear c74
             try clear c75
             try clear c76
             try clear c77
             try clear hcz78_0
             try clear hcz78_1
             try clear hcz78_2
             try clear hcz78_3
             try clear hcz78_4
             try clear hcz78_5
             try clear hcz78_6
             try clear hfz78_0
             try clear hfz78_1
             try clear hfz78_2
             try clear hfz78_3
             try clear hfz78_4
             try clear hfz78_5
             try clear hfz78_6
             try clear p2
             obtain ⟨x97_2, rfl, HA, HK2, HO_95, BK332, BK333, BK334, BK345, BK346, HB⟩ := hrel
             cases gk with
             | zero => exact absurd HA.out (by simp [tripartitelaw06_ChunkClasses.l0])
             | succ k2 =>
              have H := HA.out
              clear HA
              simp only [tripartitelaw06_ChunkClasses.l0] at H
              by_cases c82 : x97_2 < (y359.length : Int)
              ·rw [if_pos c82] at H
               have c82b0 : decide (x97_2 < (y359.length : Int)) = true := decide_eq_true c82
               clear c82
               by_cases c83 : 0 ≤ x97_2
               ·rw [if_pos c83] at H
                have c83b0 : decide (0 ≤ x97_2) = true := decide_eq_true c83
                clear c83
                by_cases c84 : x97_2 < (y359.length : Int)
                ·rw [if_pos c84] at H
                 have c84b0 : decide (x97_2 < (y359.length : Int)) = true := decide_eq_true c84
                 clear c84
                 by_cases c85 : ((rd_T41 y359 x97_2).f0) < 0
                 ·rw [if_pos c85] at H
                  have c85b0 : decide (((rd_T41 y359 x97_2).f0) < 0) = true := decide_eq_true c85
                  clear c85
                  obtain rfl := Option.some.inj H
                  have p362 : 0 ≤ (x97_2 : Int) := of_decide_eq_true (by first | (with_reducible assumption) | assumption)
                  have q362 : x97_2 < (y359.length : Int) := of_decide_eq_true (by first | (with_reducible assumption) | assumption)
                  obtain ⟨ad362, e362, hx362_0, hx362_1⟩ := at_T41 (Kd.R_reads' HO_95.out).2.2 x97_2 p362 q362
                  cases e362
                  replace p362 := eq_true p362
                  replace q362 := eq_true q362
                  go_wp2_with (first | ((with_reducible refine gate_dst (N := 13) rfl ?_); (try (refine gate_guard (by rfl) ?_; dsimp only)); refine box_event ?hg (N := 13) ?hd (cs := #[.int .i64 0, .int .i64 0]) (t := 41) ?hr ?_; (case hd => rfl); (case hg => rfl); (case hr => first | (go_simp; done) | (go_simp; rfl)); intro gb363 hg w86 hbox hb; have n0_ := Aside0.mk (Kd.R_below (Kd.R_elderB (by (with_reducible repeat (first | apply Kd.R_alloc | apply Kd.R_drewN | apply Kd.R_drew)); exact HO_95.out) gb363 (Nat.le_of_eq hg.symm)) hb); have n1_ := bb hb BK332.out; have n2_ := bb hb BK333.out; have n3_ := bb hb BK334.out; have n4_ := bb hb BK345.out; have n5_ := bb hb BK346.out; have n6_ := Aside0.mk (below_step (by repeat (first | (with_reducible first | exact HB.out | apply below_alloc | apply pw_below_drewN | apply below_drew1 | refine below_set ?_ GE332.out | refine below_set ?_ GE333.out | refine below_set ?_ GE334.out | refine below_set ?_ GE345.out | refine below_set ?_ GE346.out) | exact HB.out)) hb); have n7_ := Aside0.mk (hbox); have n8_ := Aside0.mk ((by rw [hg]; exact (below_size (by repeat (first | (with_reducible first | exact HB.out | apply below_alloc | apply pw_below_drewN | apply below_drew1 | refine below_set ?_ GE332.out | refine below_set ?_ GE333.out | refine below_set ?_ GE334.out | refine below_set ?_ GE345.out | refine below_set ?_ GE346.out) | exact HB.out))) : w.heap.size ≤ gb363)); have n9_ := Aside0.mk ((by rw [hg]; exact (below_size (by repeat (first | (with_reducible first | exact HB.out | apply below_alloc | apply pw_below_drewN | apply below_drew1 | refine below_set ?_ GE332.out | refine below_set ?_ GE333.out | refine below_set ?_ GE334.out | refine below_set ?_ GE345.out | refine below_set ?_ GE346.out) | exact HB.out))) : w.heap.size ≤ gb363)); have n10_ := Aside0.mk ((by rw [hg]; exact Nat.ne_of_lt (blk_lt (g := gb332) (o := .cells #[.bool a0_0, .int .i64 a0_1, .int .i64 a0_2, .int .i64 a0_3, .int .i64 a0_4, .int .i64 a0_5, .int .i64 a0_6] 43 (0, 0)) (by (with_reducible repeat (first | refine blk_drewN ?_ _ | refine blk_drew ?_ | refine blk_alloc ?_ _)); exact BK332.out)) : gb332 ≠ gb363)); have n11_ := Aside0.mk ((by rw [hg]; exact Nat.ne_of_gt (blk_lt (g := gb332) (o := .cells #[.bool a0_0, .int .i64 a0_1, .int .i64 a0_2, .int .i64 a0_3, .int .i64 a0_4, .int .i64 a0_5, .int .i64 a0_6] 43 (0, 0)) (by (with_reducible repeat (first | refine blk_drewN ?_ _ | refine blk_drew ?_ | refine blk_alloc ?_ _)); exact BK332.out)) : gb363 ≠ gb332)); have n12_ := Aside0.mk ((by rw [hg]; exact Nat.ne_of_lt (blk_lt (g := gb333) (o := .cells #[.slice A1_0 l1_0.length c1_0, .slice A1_1 l1_1.length c1_1, .slice A1_2 l1_2.length c1_2] 49 (0, 0)) (by (with_reducible repeat (first | refine blk_drewN ?_ _ | refine blk_drew ?_ | refine blk_alloc ?_ _)); exact BK333.out)) : gb333 ≠ gb363)); have n13_ := Aside0.mk ((by rw [hg]; exact Nat.ne_of_gt (blk_lt (g := gb333) (o := .cells #[.slice A1_0 l1_0.length c1_0, .slice A1_1 l1_1.length c1_1, .slice A1_2 l1_2.length c1_2] 49 (0, 0)) (by (with_reducible repeat (first | refine blk_drewN ?_ _ | refine blk_drew ?_ | refine blk_alloc ?_ _)); exact BK333.out)) : gb363 ≠ gb333)); have n14_ := Aside0.mk ((by rw [hg]; exact Nat.ne_of_lt (blk_lt (g := gb334) (o := .cells #[.int .i64 a2_0, .int .i64 a2_1] 41 (0, 0)) (by (with_reducible repeat (first | refine blk_drewN ?_ _ | refine blk_drew ?_ | refine blk_alloc ?_ _)); exact BK334.out)) : gb334 ≠ gb363)); have n15_ := Aside0.mk ((by rw [hg]; exact Nat.ne_of_gt (blk_lt (g := gb334) (o := .cells #[.int .i64 a2_0, .int .i64 a2_1] 41 (0, 0)) (by (with_reducible repeat (first | refine blk_drewN ?_ _ | refine blk_drew ?_ | refine blk_alloc ?_ _)); exact BK334.out)) : gb363 ≠ gb334)); have n16_ := Aside0.mk ((by rw [hg]; exact Nat.ne_of_lt (blk_lt (g := gb345) (o := .cells #[.bool t338, .int .i64 t339, .int .i64 t340, .int .i64 t341, .int .i64 t342, .int .i64 t343, .int .i64 t344] 40 (0, 0)) (by (with_reducible repeat (first | refine blk_drewN ?_ _ | refine blk_drew ?_ | refine blk_alloc ?_ _)); exact BK345.out)) : gb345 ≠ gb363)); have n17_ := Aside0.mk ((by rw [hg]; exact Nat.ne_of_gt (blk_lt (g := gb345) (o := .cells #[.bool t338, .int .i64 t339, .int .i64 t340, .int .i64 t341, .int .i64 t342, .int .i64 t343, .int .i64 t344] 40 (0, 0)) (by (with_reducible repeat (first | refine blk_drewN ?_ _ | refine blk_drew ?_ | refine blk_alloc ?_ _)); exact BK345.out)) : gb363 ≠ gb345)); have n18_ := Aside0.mk ((by rw [hg]; exact Nat.ne_of_lt (blk_lt (g := gb346) (o := .cells #[.int .i64 a2_0, .int .i64 a2_1] 38 (0, 0)) (by (with_reducible repeat (first | refine blk_drewN ?_ _ | refine blk_drew ?_ | refine blk_alloc ?_ _)); exact BK346.out)) : gb346 ≠ gb363)); have n19_ := Aside0.mk ((by rw [hg]; exact Nat.ne_of_gt (blk_lt (g := gb346) (o := .cells #[.int .i64 a2_0, .int .i64 a2_1] 38 (0, 0)) (by (with_reducible repeat (first | refine blk_drewN ?_ _ | refine blk_drew ?_ | refine blk_alloc ?_ _)); exact BK346.out)) : gb363 ≠ gb346)); clear HO_95; clear BK332; clear BK333; clear BK334; clear BK345; clear BK346; clear HB; have HO_95 := n0_; have BK332 := n1_; have BK333 := n2_; have BK334 := n3_; have BK345 := n4_; have BK346 := n5_; have HB := n6_; have BK363 := n7_; have GW363 := n8_; have GE363 := n9_; have NB332_363 := n10_; have NB363_332 := n11_; have NB333_363 := n12_; have NB363_333 := n13_; have NB334_363 := n14_; have NB363_334 := n15_; have NB345_363 := n16_; have NB363_345 := n17_; have NB346_363 := n18_; have NB363_346 := n19_; clear n0_ n1_ n2_ n3_ n4_ n5_ n6_ n7_ n8_ n9_ n10_ n11_ n12_ n13_ n14_ n15_ n16_ n17_ n18_ n19_; clear hb hbox hg; have hnb87 := NB363_332.out; have hnc87 := NB332_363.out; have hnb88 := NB363_333.out; have hnc88 := NB333_363.out; have hnb89 := NB363_334.out; have hnc89 := NB334_363.out; have hnb90 := NB363_345.out; have hnc90 := NB345_363.out; have hnb91 := NB363_346.out; have hnc91 := NB346_363.out; have hcz92_0 : w86.cell? ⟨gb363, 0, none⟩ = some (.int .i64 0) := (blk_cell BK363.out 0).trans rfl; have hcz92_1 : w86.cell? ⟨gb363, 1, none⟩ = some (.int .i64 0) := (blk_cell BK363.out 1).trans rfl; have hfz92_0 := blk_frozen BK363.out 0; have hfz92_1 := blk_frozen BK363.out 1))
                  go_ret
                  exact ⟨by first | rfl | (simp [errW_none, errW_some] <;> rfl) | (simp only [← hji4, ← hji7, ← hji10]; first | rfl | (simp [errW_none, errW_some] <;> rfl)) | (simp [*, errW_none, errW_some] <;> rfl), by repeat (first | (with_reducible first | exact HB.out | apply below_alloc | apply pw_below_drewN | apply below_drew1 | refine below_set ?_ GE332.out | refine below_set ?_ GE333.out | refine below_set ?_ GE334.out | refine below_set ?_ GE345.out | refine below_set ?_ GE346.out | refine below_set ?_ GE363.out) | exact HB.out)⟩
                 ·rw [if_neg c85] at H
                  have c85b0 : decide (((rd_T41 y359 x97_2).f0) < 0) = false := decide_eq_false c85
                  clear c85
                  by_cases c93 : ((rd_T41 y359 x97_2).f1) < ((rd_T41 y359 x97_2).f0)
                  ·rw [if_pos c93] at H
                   have c93b0 : decide (((rd_T41 y359 x97_2).f1) < ((rd_T41 y359 x97_2).f0)) = true := decide_eq_true c93
                   clear c93
                   obtain rfl := Option.some.inj H
                   have p362 : 0 ≤ (x97_2 : Int) := of_decide_eq_true (by first | (with_reducible assumption) | assumption)
                   have q362 : x97_2 < (y359.length : Int) := of_decide_eq_true (by first | (with_reducible assumption) | assumption)
                   obtain ⟨ad362, e362, hx362_0, hx362_1⟩ := at_T41 (Kd.R_reads' HO_95.out).2.2 x97_2 p362 q362
                   cases e362
                   replace p362 := eq_true p362
                   replace q362 := eq_true q362
                   go_wp2_with (first | ((with_reducible refine gate_dst (N := 13) rfl ?_); (try (refine gate_guard (by rfl) ?_; dsimp only)); refine box_event ?hg (N := 13) ?hd (cs := #[.int .i64 0, .int .i64 0]) (t := 41) ?hr ?_; (case hd => rfl); (case hg => rfl); (case hr => first | (go_simp; done) | (go_simp; rfl)); intro gb363 hg w94 hbox hb; have n0_ := Aside0.mk (Kd.R_below (Kd.R_elderB (by (with_reducible repeat (first | apply Kd.R_alloc | apply Kd.R_drewN | apply Kd.R_drew)); exact HO_95.out) gb363 (Nat.le_of_eq hg.symm)) hb); have n1_ := bb hb BK332.out; have n2_ := bb hb BK333.out; have n3_ := bb hb BK334.out; have n4_ := bb hb BK345.out; have n5_ := bb hb BK346.out; have n6_ := Aside0.mk (below_step (by repeat (first | (with_reducible first | exact HB.out | apply below_alloc | apply pw_below_drewN | apply below_drew1 | refine below_set ?_ GE332.out | refine below_set ?_ GE333.out | refine below_set ?_ GE334.out | refine below_set ?_ GE345.out | refine below_set ?_ GE346.out) | exact HB.out)) hb); have n7_ := Aside0.mk (hbox); have n8_ := Aside0.mk ((by rw [hg]; exact (below_size (by repeat (first | (with_reducible first | exact HB.out | apply below_alloc | apply pw_below_drewN | apply below_drew1 | refine below_set ?_ GE332.out | refine below_set ?_ GE333.out | refine below_set ?_ GE334.out | refine below_set ?_ GE345.out | refine below_set ?_ GE346.out) | exact HB.out))) : w.heap.size ≤ gb363)); have n9_ := Aside0.mk ((by rw [hg]; exact (below_size (by repeat (first | (with_reducible first | exact HB.out | apply below_alloc | apply pw_below_drewN | apply below_drew1 | refine below_set ?_ GE332.out | refine below_set ?_ GE333.out | refine below_set ?_ GE334.out | refine below_set ?_ GE345.out | refine below_set ?_ GE346.out) | exact HB.out))) : w.heap.size ≤ gb363)); have n10_ := Aside0.mk ((by rw [hg]; exact Nat.ne_of_lt (blk_lt (g := gb332) (o := .cells #[.bool a0_0, .int .i64 a0_1, .int .i64 a0_2, .int .i64 a0_3, .int .i64 a0_4, .int .i64 a0_5, .int .i64 a0_6] 43 (0, 0)) (by (with_reducible repeat (first | refine blk_drewN ?_ _ | refine blk_drew ?_ | refine blk_alloc ?_ _)); exact BK332.out)) : gb332 ≠ gb363)); have n11_ := Aside0.mk ((by rw [hg]; exact Nat.ne_of_gt (blk_lt (g := gb332) (o := .cells #[.bool a0_0, .int .i64 a0_1, .int .i64 a0_2, .int .i64 a0_3, .int .i64 a0_4, .int .i64 a0_5, .int .i64 a0_6] 43 (0, 0)) (by (with_reducible repeat (first | refine blk_drewN ?_ _ | refine blk_drew ?_ | refine blk_alloc ?_ _)); exact BK332.out)) : gb363 ≠ gb332)); have n12_ := Aside0.mk ((by rw [hg]; exact Nat.ne_of_lt (blk_lt (g := gb333) (o := .cells #[.slice A1_0 l1_0.length c1_0, .slice A1_1 l1_1.length c1_1, .slice A1_2 l1_2.length c1_2] 49 (0, 0)) (by (with_reducible repeat (first | refine blk_drewN ?_ _ | refine blk_drew ?_ | refine blk_alloc ?_ _)); exact BK333.out)) : gb333 ≠ gb363)); have n13_ := Aside0.mk ((by rw [hg]; exact Nat.ne_of_gt (blk_lt (g := gb333) (o := .cells #[.slice A1_0 l1_0.length c1_0, .slice A1_1 l1_1.length c1_1, .slice A1_2 l1_2.length c1_2] 49 (0, 0)) (by (with_reducible repeat (first | refine blk_drewN ?_ _ | refine blk_drew ?_ | refine blk_alloc ?_ _)); exact BK333.out)) : gb363 ≠ gb333)); have n14_ := Aside0.mk ((by rw [hg]; exact Nat.ne_of_lt (blk_lt (g := gb334) (o := .cells #[.int .i64 a2_0, .int .i64 a2_1] 41 (0, 0)) (by (with_reducible repeat (first | refine blk_drewN ?_ _ | refine blk_drew ?_ | refine blk_alloc ?_ _)); exact BK334.out)) : gb334 ≠ gb363)); have n15_ := Aside0.mk ((by rw [hg]; exact Nat.ne_of_gt (blk_lt (g := gb334) (o := .cells #[.int .i64 a2_0, .int .i64 a2_1] 41 (0, 0)) (by (with_reducible repeat (first | refine blk_drewN ?_ _ | refine blk_drew ?_ | refine blk_alloc ?_ _)); exact BK334.out)) : gb363 ≠ gb334)); have n16_ := Aside0.mk ((by rw [hg]; exact Nat.ne_of_lt (blk_lt (g := gb345) (o := .cells #[.bool t338, .int .i64 t339, .int .i64 t340, .int .i64 t341, .int .i64 t342, .int .i64 t343, .int .i64 t344] 40 (0, 0)) (by (with_reducible repeat (first | refine blk_drewN ?_ _ | refine blk_drew ?_ | refine blk_alloc ?_ _)); exact BK345.out)) : gb345 ≠ gb363)); have n17_ := Aside0.mk ((by rw [hg]; exact Nat.ne_of_gt (blk_lt (g := gb345) (o := .cells #[.bool t338, .int .i64 t339, .int .i64 t340, .int .i64 t341, .int .i64 t342, .int .i64 t343, .int .i64 t344] 40 (0, 0)) (by (with_reducible repeat (first | refine blk_drewN ?_ _ | refine blk_drew ?_ | refine blk_alloc ?_ _)); exact BK345.out)) : gb363 ≠ gb345)); have n18_ := Aside0.mk ((by rw [hg]; exact Nat.ne_of_lt (blk_lt (g := gb346) (o := .cells #[.int .i64 a2_0, .int .i64 a2_1] 38 (0, 0)) (by (with_reducible repeat (first | refine blk_drewN ?_ _ | refine blk_drew ?_ | refine blk_alloc ?_ _)); exact BK346.out)) : gb346 ≠ gb363)); have n19_ := Aside0.mk ((by rw [hg]; exact Nat.ne_of_gt (blk_lt (g := gb346) (o := .cells #[.int .i64 a2_0, .int .i64 a2_1] 38 (0, 0)) (by (with_reducible repeat (first | refine blk_drewN ?_ _ | refine blk_drew ?_ | refine blk_alloc ?_ _)); exact BK346.out)) : gb363 ≠ gb346)); clear HO_95; clear BK332; clear BK333; clear BK334; clear BK345; clear BK346; clear HB; have HO_95 := n0_; have BK332 := n1_; have BK333 := n2_; have BK334 := n3_; have BK345 := n4_; have BK346 := n5_; have HB := n6_; have BK363 := n7_; have GW363 := n8_; have GE363 := n9_; have NB332_363 := n10_; have NB363_332 := n11_; have NB333_363 := n12_; have NB363_333 := n13_; have NB334_363 := n14_; have NB363_334 := n15_; have NB345_363 := n16_; have NB363_345 := n17_; have NB346_363 := n18_; have NB363_346 := n19_; clear n0_ n1_ n2_ n3_ n4_ n5_ n6_ n7_ n8_ n9_ n10_ n11_ n12_ n13_ n14_ n15_ n16_ n17_ n18_ n19_; clear hb hbox hg; have hnb95 := NB363_332.out; have hnc95 := NB332_363.out; have hnb96 := NB363_333.out; have hnc96 := NB333_363.out; have hnb97 := NB363_334.out; have hnc97 := NB334_363.out; have hnb98 := NB363_345.out; have hnc98 := NB345_363.out; have hnb99 := NB363_346.out; have hnc99 := NB346_363.out; have hcz100_0 : w94.cell? ⟨gb363, 0, none⟩ = some (.int .i64 0) := (blk_cell BK363.out 0).trans rfl; have hcz100_1 : w94.cell? ⟨gb363, 1, none⟩ = some (.int .i64 0) := (blk_cell BK363.out 1).trans rfl; have hfz100_0 := blk_frozen BK363.out 0; have hfz100_1 := blk_frozen BK363.out 1))
                   go_ret
                   exact ⟨by first | rfl | (simp [errW_none, errW_some] <;> rfl) | (simp only [← hji4, ← hji7, ← hji10]; first | rfl | (simp [errW_none, errW_some] <;> rfl)) | (simp [*, errW_none, errW_some] <;> rfl), by repeat (first | (with_reducible first | exact HB.out | apply below_alloc | apply pw_below_drewN | apply below_drew1 | refine below_set ?_ GE332.out | refine below_set ?_ GE333.out | refine below_set ?_ GE334.out | refine below_set ?_ GE345.out | refine below_set ?_ GE346.out | refine below_set ?_ GE363.out) | exact HB.out)⟩
                  ·rw [if_neg c93] at H
                   have c93b0 : decide (((rd_T41 y359 x97_2).f1) < ((rd_T41 y359 x97_2).f0)) = false := decide_eq_false c93
                   clear c93
                   have H' := Aside0.mk H
                   clear H
                   have p362 : 0 ≤ (x97_2 : Int) := of_decide_eq_true (by first | (with_reducible assumption) | assumption)
                   have q362 : x97_2 < (y359.length : Int) := of_decide_eq_true (by first | (with_reducible assumption) | assumption)
                   obtain ⟨ad362, e362, hx362_0, hx362_1⟩ := at_T41 (Kd.R_reads' HO_95.out).2.2 x97_2 p362 q362
                   cases e362
                   replace p362 := eq_true p362
                   replace q362 := eq_true q362
                   go_wp2_with (first | ((with_reducible refine gate_dst (N := 13) rfl ?_); (try (refine gate_guard (by rfl) ?_; dsimp only)); refine box_event ?hg (N := 13) ?hd (cs := #[.int .i64 0, .int .i64 0]) (t := 41) ?hr ?_; (case hd => rfl); (case hg => rfl); (case hr => first | (go_simp; done) | (go_simp; rfl)); intro gb363 hg w101 hbox hb; have n0_ := Aside0.mk (Kd.R_below (Kd.R_elderB (by (with_reducible repeat (first | apply Kd.R_alloc | apply Kd.R_drewN | apply Kd.R_drew)); exact HO_95.out) gb363 (Nat.le_of_eq hg.symm)) hb); have n1_ := bb hb BK332.out; have n2_ := bb hb BK333.out; have n3_ := bb hb BK334.out; have n4_ := bb hb BK345.out; have n5_ := bb hb BK346.out; have n6_ := Aside0.mk (below_step (by repeat (first | (with_reducible first | exact HB.out | apply below_alloc | apply pw_below_drewN | apply below_drew1 | refine below_set ?_ GE332.out | refine below_set ?_ GE333.out | refine below_set ?_ GE334.out | refine below_set ?_ GE345.out | refine below_set ?_ GE346.out) | exact HB.out)) hb); have n7_ := Aside0.mk (hbox); have n8_ := Aside0.mk ((by rw [hg]; exact (below_size (by repeat (first | (with_reducible first | exact HB.out | apply below_alloc | apply pw_below_drewN | apply below_drew1 | refine below_set ?_ GE332.out | refine below_set ?_ GE333.out | refine below_set ?_ GE334.out | refine below_set ?_ GE345.out | refine below_set ?_ GE346.out) | exact HB.out))) : w.heap.size ≤ gb363)); have n9_ := Aside0.mk ((by rw [hg]; exact (below_size (by repeat (first | (with_reducible first | exact HB.out | apply below_alloc | apply pw_below_drewN | apply below_drew1 | refine below_set ?_ GE332.out | refine below_set ?_ GE333.out | refine below_set ?_ GE334.out | refine below_set ?_ GE345.out | refine below_set ?_ GE346.out) | exact HB.out))) : w.heap.size ≤ gb363)); have n10_ := Aside0.mk ((by rw [hg]; exact Nat.ne_of_lt (blk_lt (g := gb332) (o := .cells #[.bool a0_0, .int .i64 a0_1, .int .i64 a0_2, .int .i64 a0_3, .int .i64 a0_4, .int .i64 a0_5, .int .i64 a0_6] 43 (0, 0)) (by (with_reducible repeat (first | refine blk_drewN ?_ _ | refine blk_drew ?_ | refine blk_alloc ?_ _)); exact BK332.out)) : gb332 ≠ gb363)); have n11_ := Aside0.mk ((by rw [hg]; exact Nat.ne_of_gt (blk_lt (g := gb332) (o := .cells #[.bool a0_0, .int .i64 a0_1, .int .i64 a0_2, .int .i64 a0_3, .int .i64 a0_4, .int .i64 a0_5, .int .i64 a0_6] 43 (0, 0)) (by (with_reducible repeat (first | refine blk_drewN ?_ _ | refine blk_drew ?_ | refine blk_alloc ?_ _)); exact BK332.out)) : gb363 ≠ gb332)); have n12_ := Aside0.mk ((by rw [hg]; exact Nat.ne_of_lt (blk_lt (g := gb333) (o := .cells #[.slice A1_0 l1_0.length c1_0, .slice A1_1 l1_1.length c1_1, .slice A1_2 l1_2.length c1_2] 49 (0, 0)) (by (with_reducible repeat (first | refine blk_drewN ?_ _ | refine blk_drew ?_ | refine blk_alloc ?_ _)); exact BK333.out)) : gb333 ≠ gb363)); have n13_ := Aside0.mk ((by rw [hg]; exact Nat.ne_of_gt (blk_lt (g := gb333) (o := .cells #[.slice A1_0 l1_0.length c1_0, .slice A1_1 l1_1.length c1_1, .slice A1_2 l1_2.length c1_2] 49 (0, 0)) (by (with_reducible repeat (first | refine blk_drewN ?_ _ | refine blk_drew ?_ | refine blk_alloc ?_ _)); exact BK333.out)) : gb363 ≠ gb333)); have n14_ := Aside0.mk ((by rw [hg]; exact Nat.ne_of_lt (blk_lt (g := gb334) (o := .cells #[.int .i64 a2_0, .int .i64 a2_1] 41 (0, 0)) (by (with_reducible repeat (first | refine blk_drewN ?_ _ | refine blk_drew ?_ | refine blk_alloc ?_ _)); exact BK334.out)) : gb334 ≠ gb363)); have n15_ := Aside0.mk ((by rw [hg]; exact Nat.ne_of_gt (blk_lt (g := gb334) (o := .cells #[.int .i64 a2_0, .int .i64 a2_1] 41 (0, 0)) (by (with_reducible repeat (first | refine blk_drewN ?_ _ | refine blk_drew ?_ | refine blk_alloc ?_ _)); exact BK334.out)) : gb363 ≠ gb334)); have n16_ := Aside0.mk ((by rw [hg]; exact Nat.ne_of_lt (blk_lt (g := gb345) (o := .cells #[.bool t338, .int .i64 t339, .int .i64 t340, .int .i64 t341, .int .i64 t342, .int .i64 t343, .int .i64 t344] 40 (0, 0)) (by (with_reducible repeat (first | refine blk_drewN ?_ _ | refine blk_drew ?_ | refine blk_alloc ?_ _)); exact BK345.out)) : gb345 ≠ gb363)); have n17_ := Aside0.mk ((by rw [hg]; exact Nat.ne_of_gt (blk_lt (g := gb345) (o := .cells #[.bool t338, .int .i64 t339, .int .i64 t340, .int .i64 t341, .int .i64 t342, .int .i64 t343, .int .i64 t344] 40 (0, 0)) (by (with_reducible repeat (first | refine blk_drewN ?_ _ | refine blk_drew ?_ | refine blk_alloc ?_ _)); exact BK345.out)) : gb363 ≠ gb345)); have n18_ := Aside0.mk ((by rw [hg]; exact Nat.ne_of_lt (blk_lt (g := gb346) (o := .cells #[.int .i64 a2_0, .int .i64 a2_1] 38 (0, 0)) (by (with_reducible repeat (first | refine blk_drewN ?_ _ | refine blk_drew ?_ | refine blk_alloc ?_ _)); exact BK346.out)) : gb346 ≠ gb363)); have n19_ := Aside0.mk ((by rw [hg]; exact Nat.ne_of_gt (blk_lt (g := gb346) (o := .cells #[.int .i64 a2_0, .int .i64 a2_1] 38 (0, 0)) (by (with_reducible repeat (first | refine blk_drewN ?_ _ | refine blk_drew ?_ | refine blk_alloc ?_ _)); exact BK346.out)) : gb363 ≠ gb346)); clear HO_95; clear BK332; clear BK333; clear BK334; clear BK345; clear BK346; clear HB; have HO_95 := n0_; have BK332 := n1_; have BK333 := n2_; have BK334 := n3_; have BK345 := n4_; have BK346 := n5_; have HB := n6_; have BK363 := n7_; have GW363 := n8_; have GE363 := n9_; have NB332_363 := n10_; have NB363_332 := n11_; have NB333_363 := n12_; have NB363_333 := n13_; have NB334_363 := n14_; have NB363_334 := n15_; have NB345_363 := n16_; have NB363_345 := n17_; have NB346_363 := n18_; have NB363_346 := n19_; clear n0_ n1_ n2_ n3_ n4_ n5_ n6_ n7_ n8_ n9_ n10_ n11_ n12_ n13_ n14_ n15_ n16_ n17_ n18_ n19_; clear hb hbox hg; have hnb102 := NB363_332.out; have hnc102 := NB332_363.out; have hnb103 := NB363_333.out; have hnc103 := NB333_363.out; have hnb104 := NB363_334.out; have hnc104 := NB334_363.out; have hnb105 := NB363_345.out; have hnc105 := NB345_363.out; have hnb106 := NB363_346.out; have hnc106 := NB346_363.out; have hcz107_0 : w101.cell? ⟨gb363, 0, none⟩ = some (.int .i64 0) := (blk_cell BK363.out 0).trans rfl; have hcz107_1 : w101.cell? ⟨gb363, 1, none⟩ = some (.int .i64 0) := (blk_cell BK363.out 1).trans rfl; have hfz107_0 := blk_frozen BK363.out 0; have hfz107_1 := blk_frozen BK363.out 1))
                   go_roundg k2
                   case measure => have := HJ19.out; have := HK2.out; omega
                   case rel => exact ⟨(wrap64 (x97_2 + 1)), (by first | rfl | (simp; done) | (simp [*]; done)), H', ⟨by have := HJ19.out; have := HK2.out; omega⟩, ⟨by (with_reducible repeat (first | apply Kd.R_alloc | apply Kd.R_drewN | apply Kd.R_drew)); exact Kd.R_mono (Kd.R_far (p := ⟨gb363, 1, none⟩) (Kd.R_far (p := ⟨gb363, 0, none⟩) (Kd.R_mono HO_95.out (fun k_ hk => (⟨hk, hk.2⟩ : _ ∧ k_ ≠ gb363))) (fun _ hk => hk.2) (.int .i64 ((rd_T41 y359 x97_2).f0))) (fun _ hk => hk.2) (.int .i64 ((rd_T41 y359 x97_2).f1))) (fun _ hk => hk.1.1)⟩, ⟨by (with_reducible repeat (first | refine blk_drewN ?_ _ | refine blk_drew ?_ | refine blk_alloc ?_ _)); refine blk_far ?_ NB332_363.out _; (with_reducible repeat (first | refine blk_drewN ?_ _ | refine blk_drew ?_ | refine blk_alloc ?_ _)); refine blk_far ?_ NB332_363.out _; (with_reducible repeat (first | refine blk_drewN ?_ _ | refine blk_drew ?_ | refine blk_alloc ?_ _)); exact BK332.out⟩, ⟨by (with_reducible repeat (first | refine blk_drewN ?_ _ | refine blk_drew ?_ | refine blk_alloc ?_ _)); refine blk_far ?_ NB333_363.out _; (with_reducible repeat (first | refine blk_drewN ?_ _ | refine blk_drew ?_ | refine blk_alloc ?_ _)); refine blk_far ?_ NB333_363.out _; (with_reducible repeat (first | refine blk_drewN ?_ _ | refine blk_drew ?_ | refine blk_alloc ?_ _)); exact BK333.out⟩, ⟨by (with_reducible repeat (first | refine blk_drewN ?_ _ | refine blk_drew ?_ | refine blk_alloc ?_ _)); refine blk_far ?_ NB334_363.out _; (with_reducible repeat (first | refine blk_drewN ?_ _ | refine blk_drew ?_ | refine blk_alloc ?_ _)); refine blk_far ?_ NB334_363.out _; (with_reducible repeat (first | refine blk_drewN ?_ _ | refine blk_drew ?_ | refine blk_alloc ?_ _)); exact BK334.out⟩, ⟨by (with_reducible repeat (first | refine blk_drewN ?_ _ | refine blk_drew ?_ | refine blk_alloc ?_ _)); refine blk_far ?_ NB345_363.out _; (with_reducible repeat (first | refine blk_drewN ?_ _ | refine blk_drew ?_ | refine blk_alloc ?_ _)); refine blk_far ?_ NB345_363.out _; (with_reducible repeat (first | refine blk_drewN ?_ _ | refine blk_drew ?_ | refine blk_alloc ?_ _)); exact BK345.out⟩, ⟨by (with_reducible repeat (first | refine blk_drewN ?_ _ | refine blk_drew ?_ | refine blk_alloc ?_ _)); refine blk_far ?_ NB346_363.out _; (with_reducible repeat (first | refine blk_drewN ?_ _ | refine blk_drew ?_ | refine blk_alloc ?_ _)); refine blk_far ?_ NB346_363.out _; (with_reducible repeat (first | refine blk_drewN ?_ _ | refine blk_drew ?_ | refine blk_alloc ?_ _)); exact BK346.out⟩, ⟨by repeat (first | (with_reducible first | exact HB.out | apply below_alloc | apply pw_below_drewN | apply below_drew1 | refine below_set ?_ GE332.out | refine below_set ?_ GE333.out | refine below_set ?_ GE334.out | refine below_set ?_ GE345.out | refine below_set ?_ GE346.out | refine below_set ?_ GE363.out) | exact HB.out)⟩⟩
                ·rw [if_neg c84] at H
                 exact absurd H (by simp)
               ·rw [if_neg c83] at H
                exact absurd H (by simp)
              ·rw [if_neg c82] at H
               have c82b0 : decide (x97_2 < (y359.length : Int)) = false := decide_eq_false c82
               clear c82
               have HC108 := Aside0.mk H
               clear H
               go_upto_region 14 with (fail)
               go_cut [133] (fun v133 wc => ∃ (kq : Nat) (x133_107 : Bool), v133 = .bool x133_107 ∧ Aside0 (tripartitelaw06_ChunkClasses.j2 kq (l1_0.take ((ji4) : Int).toNat) (l1_1.take ((ji7) : Int).toNat) (l1_2.take ((ji10) : Int).toNat) x133_107 a0_0 a0_1 a0_2 a0_3 a0_4 a0_5 a0_6 t338 t339 t340 t341 t342 t343 t344 = some r) ∧ Aside0 (kq ≤ k2) ∧ Aside0 (wc.heap[gb332]? = some (.cells #[.bool a0_0, .int .i64 a0_1, .int .i64 a0_2, .int .i64 a0_3, .int .i64 a0_4, .int .i64 a0_5, .int .i64 a0_6] 43 (0, 0))) ∧ Aside0 (wc.heap[gb333]? = some (.cells #[(.slice A1_0 l1_0.length c1_0), (.slice A1_1 l1_1.length c1_1), (.slice A1_2 l1_2.length c1_2)] 49 (0, 0))) ∧ Aside0 (wc.heap[gb334]? = some (.cells #[.int .i64 a2_0, .int .i64 a2_1] 41 (0, 0))) ∧ Aside0 (wc.heap[gb345]? = some (.cells #[.bool t338, .int .i64 t339, .int .i64 t340, .int .i64 t341, .int .i64 t342, .int .i64 t343, .int .i64 t344] 40 (0, 0))) ∧ Aside0 (wc.heap[gb346]? = some (.cells #[.int .i64 a2_0, .int .i64 a2_1] 38 (0, 0))) ∧ Aside0 (Below w.heap.size w wc))
               case first =>
                have H := HC108.out
                clear HC108
                have g_ji4 : 0 ≤ ji4 := of_decide_eq_true (by first | (with_reducible assumption) | assumption)
                have h_ji4 : ji4 ≤ (l1_0.length : Int) := of_decide_eq_true (by first | (with_reducible assumption) | assumption)
                have L_ji4 : ((l1_0.take ((ji4) : Int).toNat).length : Int) = ji4 := by rw [List.length_take]; omega
                rw [L_ji4] at H
                have m_ji4 : max ji4 0 = ji4 := by omega
                clear L_ji4 g_ji4 h_ji4
                have g_ji7 : 0 ≤ ji7 := of_decide_eq_true (by first | (with_reducible assumption) | assumption)
                have h_ji7 : ji7 ≤ (l1_1.length : Int) := of_decide_eq_true (by first | (with_reducible assumption) | assumption)
                have L_ji7 : ((l1_1.take ((ji7) : Int).toNat).length : Int) = ji7 := by rw [List.length_take]; omega
                rw [L_ji7] at H
                have m_ji7 : max ji7 0 = ji7 := by omega
                clear L_ji7 g_ji7 h_ji7
                have g_ji10 : 0 ≤ ji10 := of_decide_eq_true (by first | (with_reducible assumption) | assumption)
                have h_ji10 : ji10 ≤ (l1_2.length : Int) := of_decide_eq_true (by first | (with_reducible assumption) | assumption)
                have L_ji10 : ((l1_2.take ((ji10) : Int).toNat).length : Int) = ji10 := by rw [List.length_take]; omega
                rw [L_ji10] at H
                have m_ji10 : max ji10 0 = ji10 := by omega
                clear L_ji10 g_ji10 h_ji10
                by_cases c109 : a0_2 > ji4
                ·rw [if_pos c109] at H
                 have c109b0 : decide (ji4 < a0_2) = true := decide_eq_true c109
                 clear c109
                 (first | rw [c109b0] | (simp only [i64_w, i32_w]; rw [c109b0]) | skip)
                 have H' := Aside0.mk H
                 clear H
                 have hnb110 := NB332_333.out
                 have hnc110 := NB333_332.out
                 have hnb111 := NB332_334.out
                 have hnc111 := NB334_332.out
                 have hnb112 := NB332_345.out
                 have hnc112 := NB345_332.out
                 have hnb113 := NB332_346.out
                 have hnc113 := NB346_332.out
                 have hcz114_0 : wr.cell? ⟨gb332, 0, none⟩ = some (.bool a0_0) := (blk_cell BK332.out 0).trans rfl
                 have hcz114_1 : wr.cell? ⟨gb332, 1, none⟩ = some (.int .i64 a0_1) := (blk_cell BK332.out 1).trans rfl
                 have hcz114_2 : wr.cell? ⟨gb332, 2, none⟩ = some (.int .i64 a0_2) := (blk_cell BK332.out 2).trans rfl
                 have hcz114_3 : wr.cell? ⟨gb332, 3, none⟩ = some (.int .i64 a0_3) := (blk_cell BK332.out 3).trans rfl
                 have hcz114_4 : wr.cell? ⟨gb332, 4, none⟩ = some (.int .i64 a0_4) := (blk_cell BK332.out 4).trans rfl
                 have hcz114_5 : wr.cell? ⟨gb332, 5, none⟩ = some (.int .i64 a0_5) := (blk_cell BK332.out 5).trans rfl
                 have hcz114_6 : wr.cell? ⟨gb332, 6, none⟩ = some (.int .i64 a0_6) := (blk_cell BK332.out 6).trans rfl
                 have hfz114_0 := blk_frozen BK332.out 0
                 have hfz114_1 := blk_frozen BK332.out 1
                 have hfz114_2 := blk_frozen BK332.out 2
                 have hfz114_3 := blk_frozen BK332.out 3
                 have hfz114_4 := blk_frozen BK332.out 4
                 have hfz114_5 := blk_frozen BK332.out 5
                 have hfz114_6 := blk_frozen BK332.out 6
                 go_wp2
                 go_meet
                 case rel => exact ⟨_, (true), (by first | rfl | (simp; done) | (simp [*]; done)), H', ⟨by have := HJ19.out; have := HK2.out; first | omega | exact Nat.le_refl _⟩, ⟨by (with_reducible repeat (first | refine blk_drewN ?_ _ | refine blk_drew ?_ | refine blk_alloc ?_ _)); exact BK332.out⟩, ⟨by (with_reducible repeat (first | refine blk_drewN ?_ _ | refine blk_drew ?_ | refine blk_alloc ?_ _)); exact BK333.out⟩, ⟨by (with_reducible repeat (first | refine blk_drewN ?_ _ | refine blk_drew ?_ | refine blk_alloc ?_ _)); exact BK334.out⟩, ⟨by (with_reducible repeat (first | refine blk_drewN ?_ _ | refine blk_drew ?_ | refine blk_alloc ?_ _)); exact BK345.out⟩, ⟨by (with_reducible repeat (first | refine blk_drewN ?_ _ | refine blk_drew ?_ | refine blk_alloc ?_ _)); exact BK346.out⟩, ⟨by repeat (first | (with_reducible first | exact HB.out | apply below_alloc | apply pw_below_drewN | apply below_drew1 | refine below_set ?_ GE332.out | refine below_set ?_ GE333.out | refine below_set ?_ GE334.out | refine below_set ?_ GE345.out | refine below_set ?_ GE346.out) | exact HB.out)⟩⟩
                ·rw [if_neg c109] at H
                 have c109b0 : decide (ji4 < a0_2) = false := decide_eq_false c109
                 clear c109
                 (first | rw [c109b0] | (simp only [i64_w, i32_w]; rw [c109b0]) | skip)
                 by_cases c115 : a0_4 > ji7
                 ·rw [if_pos c115] at H
                  have c115b0 : decide (ji7 < a0_4) = true := decide_eq_true c115
                  clear c115
                  have H' := Aside0.mk H
                  clear H
                  have hnb116 := NB332_333.out
                  have hnc116 := NB333_332.out
                  have hnb117 := NB332_334.out
                  have hnc117 := NB334_332.out
                  have hnb118 := NB332_345.out
                  have hnc118 := NB345_332.out
                  have hnb119 := NB332_346.out
                  have hnc119 := NB346_332.out
                  have hcz120_0 : wr.cell? ⟨gb332, 0, none⟩ = some (.bool a0_0) := (blk_cell BK332.out 0).trans rfl
                  have hcz120_1 : wr.cell? ⟨gb332, 1, none⟩ = some (.int .i64 a0_1) := (blk_cell BK332.out 1).trans rfl
                  have hcz120_2 : wr.cell? ⟨gb332, 2, none⟩ = some (.int .i64 a0_2) := (blk_cell BK332.out 2).trans rfl
                  have hcz120_3 : wr.cell? ⟨gb332, 3, none⟩ = some (.int .i64 a0_3) := (blk_cell BK332.out 3).trans rfl
                  have hcz120_4 : wr.cell? ⟨gb332, 4, none⟩ = some (.int .i64 a0_4) := (blk_cell BK332.out 4).trans rfl
                  have hcz120_5 : wr.cell? ⟨gb332, 5, none⟩ = some (.int .i64 a0_5) := (blk_cell BK332.out 5).trans rfl
                  have hcz120_6 : wr.cell? ⟨gb332, 6, none⟩ = some (.int .i64 a0_6) := (blk_cell BK332.out 6).trans rfl
                  have hfz120_0 := blk_frozen BK332.out 0
                  have hfz120_1 := blk_frozen BK332.out 1
                  have hfz120_2 := blk_frozen BK332.out 2
                  have hfz120_3 := blk_frozen BK332.out 3
                  have hfz120_4 := blk_frozen BK332.out 4
                  have hfz120_5 := blk_frozen BK332.out 5
                  have hfz120_6 := blk_frozen BK332.out 6
                  go_wp2
                  go_meet
                  case rel => exact ⟨_, (true), (by first | rfl | (simp; done) | (simp [*]; done)), H', ⟨by have := HJ19.out; have := HK2.out; first | omega | exact Nat.le_refl _⟩, ⟨by (with_reducible repeat (first | refine blk_drewN ?_ _ | refine blk_drew ?_ | refine blk_alloc ?_ _)); exact BK332.out⟩, ⟨by (with_reducible repeat (first | refine blk_drewN ?_ _ | refine blk_drew ?_ | refine blk_alloc ?_ _)); exact BK333.out⟩, ⟨by (with_reducible repeat (first | refine blk_drewN ?_ _ | refine blk_drew ?_ | refine blk_alloc ?_ _)); exact BK334.out⟩, ⟨by (with_reducible repeat (first | refine blk_drewN ?_ _ | refine blk_drew ?_ | refine blk_alloc ?_ _)); exact BK345.out⟩, ⟨by (with_reducible repeat (first | refine blk_drewN ?_ _ | refine blk_drew ?_ | refine blk_alloc ?_ _)); exact BK346.out⟩, ⟨by repeat (first | (with_reducible first | exact HB.out | apply below_alloc | apply pw_below_drewN | apply below_drew1 | refine below_set ?_ GE332.out | refine below_set ?_ GE333.out | refine below_set ?_ GE334.out | refine below_set ?_ GE345.out | refine below_set ?_ GE346.out) | exact HB.out)⟩⟩
                 ·rw [if_neg c115] at H
                  have c115b0 : decide (ji7 < a0_4) = false := decide_eq_false c115
                  clear c115
                  have H' := Aside0.mk H
                  clear H
                  have hnb121 := NB332_333.out
                  have hnc121 := NB333_332.out
                  have hnb122 := NB332_334.out
                  have hnc122 := NB334_332.out
                  have hnb123 := NB332_345.out
                  have hnc123 := NB345_332.out
                  have hnb124 := NB332_346.out
                  have hnc124 := NB346_332.out
                  have hcz125_0 : wr.cell? ⟨gb332, 0, none⟩ = some (.bool a0_0) := (blk_cell BK332.out 0).trans rfl
                  have hcz125_1 : wr.cell? ⟨gb332, 1, none⟩ = some (.int .i64 a0_1) := (blk_cell BK332.out 1).trans rfl
                  have hcz125_2 : wr.cell? ⟨gb332, 2, none⟩ = some (.int .i64 a0_2) := (blk_cell BK332.out 2).trans rfl
                  have hcz125_3 : wr.cell? ⟨gb332, 3, none⟩ = some (.int .i64 a0_3) := (blk_cell BK332.out 3).trans rfl
                  have hcz125_4 : wr.cell? ⟨gb332, 4, none⟩ = some (.int .i64 a0_4) := (blk_cell BK332.out 4).trans rfl
                  have hcz125_5 : wr.cell? ⟨gb332, 5, none⟩ = some (.int .i64 a0_5) := (blk_cell BK332.out 5).trans rfl
                  have hcz125_6 : wr.cell? ⟨gb332, 6, none⟩ = some (.int .i64 a0_6) := (blk_cell BK332.out 6).trans rfl
                  have hfz125_0 := blk_frozen BK332.out 0
                  have hfz125_1 := blk_frozen BK332.out 1
                  have hfz125_2 := blk_frozen BK332.out 2
                  have hfz125_3 := blk_frozen BK332.out 3
                  have hfz125_4 := blk_frozen BK332.out 4
                  have hfz125_5 := blk_frozen BK332.out 5
                  have hfz125_6 := blk_frozen BK332.out 6
                  go_wp2
                  go_meet
                  case rel => exact ⟨_, (decide (a0_6 > ji10)), (by first | rfl | (simp; done) | (simp only [← hji10] <;> (first | rfl | simp)) | (simp [*]; done)), H', ⟨by have := HJ19.out; have := HK2.out; first | omega | exact Nat.le_refl _⟩, ⟨by (with_reducible repeat (first | refine blk_drewN ?_ _ | refine blk_drew ?_ | refine blk_alloc ?_ _)); exact BK332.out⟩, ⟨by (with_reducible repeat (first | refine blk_drewN ?_ _ | refine blk_drew ?_ | refine blk_alloc ?_ _)); exact BK333.out⟩, ⟨by (with_reducible repeat (first | refine blk_drewN ?_ _ | refine blk_drew ?_ | refine blk_alloc ?_ _)); exact BK334.out⟩, ⟨by (with_reducible repeat (first | refine blk_drewN ?_ _ | refine blk_drew ?_ | refine blk_alloc ?_ _)); exact BK345.out⟩, ⟨by (with_reducible repeat (first | refine blk_drewN ?_ _ | refine blk_drew ?_ | refine blk_alloc ?_ _)); exact BK346.out⟩, ⟨by repeat (first | (with_reducible first | exact HB.out | apply below_alloc | apply pw_below_drewN | apply below_drew1 | refine below_set ?_ GE332.out | refine below_set ?_ GE333.out | refine below_set ?_ GE334.out | refine below_set ?_ GE345.out | refine below_set ?_ GE346.out) | exact HB.out)⟩⟩
               case rest =>
                clear HC108
                try clear c1
                try clear c2
                try clear p2
                try clear p3
                try clear q3
                try clear hx3
                try clear c5
                try clear c6
                try clear p6
                try clear c7
                try clear c8
                try clear c9
                try clear c10
                try clear c11
                try clear c12
                try clear c14
                try clear p36
                try clear q36
                try clear hx36
                try clear c52
                try clear c52b0
                try clear p64
                try clear c68
                try clear c68b0
                try clear c73
                try clear c74
                try clear c75
                try clear c76
                try clear c77
                try clear c82
                try clear c82b0
                try clear c83
                try clear c83b0
                try clear c84
                try clear c84b0
                try clear c85
                try clear c85b0
                try clear c87
                try clear c88
                try clear c89
                try clear c90
                try clear c91
                try clear c93
                try clear c93b0
                try clear c95
                try clear c96
                try clear c97
                try clear c98
                try clear c99
                try clear c102
                try clear c103
                try clear c104
                try clear c105
                try clear c106
                try clear c109
                try clear c109b0
                try clear c110
                try clear c111
                try clear c112
                try clear c113
                try clear c115
                try clear c115b0
                try clear c116
                try clear c117
                try clear c118
                try clear c119
                try clear c121
                try clear c122
                try clear c123
                try clear c124
                try clear hcz100_0
                try clear hcz100_1
                try clear hcz107_0
                try clear hcz107_1
                try clear hcz114_0
                try clear hcz114_1
                try clear hcz114_2
                try clear hcz114_3
                try clear hcz114_4
                try clear hcz114_5
                try clear hcz114_6
                try clear hcz120_0
                try clear hcz120_1
                try clear hcz120_2
                try clear hcz120_3
                try clear hcz120_4
                try clear hcz120_5
                try clear hcz120_6
                try clear hcz125_0
                try clear hcz125_1
                try clear hcz125_2
                try clear hcz125_3
                try clear hcz125_4
                try clear hcz125_5
                try clear hcz125_6
                try clear hcz78_0
                try clear hcz78_1
                try clear hcz78_2
                try clear hcz78_3
                try clear hcz78_4
                try clear hcz78_5
                try clear hcz78_6
                try clear hcz92_0
                try clear hcz92_1
                try clear hfz100_0
                try clear hfz100_1
                try clear hfz107_0
                try clear hfz107_1
                try clear hfz114_0
                try clear hfz114_1
                try clear hfz114_2
                try clear hfz114_3
                try clear hfz114_4
                try clear hfz114_5
                try clear hfz114_6
                try clear hfz120_0
                try clear hfz120_1
                try clear hfz120_2
                try clear hfz120_3
                try clear hfz120_4
                try clear hfz120_5
                try clear hfz120_6
                try clear hfz125_0
                try clear hfz125_1
                try clear hfz125_2
                try clear hfz125_3
                try clear hfz125_4
                try clear hfz125_5
                try clear hfz125_6
                try clear hfz78_0
                try clear hfz78_1
                try clear hfz78_2
                try clear hfz78_3
                try clear hfz78_4
                try clear hfz78_5
                try clear hfz78_6
                try clear hfz92_0
                try clear hfz92_1
                try clear hx362_0
                try clear hx362_1
                try clear p2
                try clear p362
                try clear q362
                obtain ⟨kq, x133_107, rfl, HA, HJ107, BK332, BK333, BK334, BK345, BK346, HB⟩ := hcut
                cases kq with
                | zero => exact absurd HA.out (by simp [tripartitelaw06_ChunkClasses.j2])
                | succ kj107 =>
                 have H := HA.out
                 clear HA
                 simp only [tripartitelaw06_ChunkClasses.j2] at H
                 by_cases c126 : x133_107 = true
                 ·subst c126
                  have H1 : (some true) = some r := by rw [if_pos rfl] at H; exact H
                  clear H
                  have H := H1
                  clear H1
                  obtain rfl := Option.some.inj H
                  go_wp2
                  go_ret
                  exact ⟨by first | rfl | (simp [errW_none, errW_some] <;> rfl) | (simp only [← hji4, ← hji7, ← hji10]; first | rfl | (simp [errW_none, errW_some] <;> rfl)) | (simp [*, errW_none, errW_some] <;> rfl), by repeat (first | (with_reducible first | exact HB.out | apply below_alloc | apply pw_below_drewN | apply below_drew1 | refine below_set ?_ GE332.out | refine below_set ?_ GE333.out | refine below_set ?_ GE334.out | refine below_set ?_ GE345.out | refine below_set ?_ GE346.out) | exact HB.out)⟩
                 ·replace c126 := Bool.eq_false_iff.mpr c126
                  subst c126
                  have H1 : ((chunk_Chunk_Class.f kj107 t338 t339 t340 t341 t342 t343 t344 (l1_0.take ((ji4) : Int).toNat) (l1_1.take ((ji7) : Int).toNat) (l1_2.take ((ji10) : Int).toNat)).bind fun t364 => ((chunk_Chunk_Turned.f t338 t339 t340 t341 t342 t343 t344).bind fun bt365 => ((chunk_Chunk_Class.f kj107 bt365.1 bt365.2.1 bt365.2.2.1 bt365.2.2.2.1 bt365.2.2.2.2.1 bt365.2.2.2.2.2.1 bt365.2.2.2.2.2.2 (l1_0.take ((ji4) : Int).toNat) (l1_2.take ((ji10) : Int).toNat) (l1_1.take ((ji7) : Int).toNat)).bind fun t372 => ((tripartiteref06_Class.f kj107 a0_0 a0_1 a0_2 a0_3 a0_4 a0_5 a0_6 (l1_0.take ((ji4) : Int).toNat) (l1_1.take ((ji7) : Int).toNat) (l1_2.take ((ji10) : Int).toNat)).bind fun t373 => (if t364 = t373 then ((some (([0, 2, 1, 3, 4] : List Int) : List Int)).bind fun y374 => (if 0 ≤ t364 then (if t364 < (y374.length : Int) then (if a0_0 = true then (some (t372 == (rd y374 t364))) else ((tripartiteref06_Cut.f a0_1 a0_2 (l1_0.take ((ji4) : Int).toNat)).bind fun t378 => ((tripartiteref06_Cut.f a0_3 a0_4 (l1_1.take ((ji7) : Int).toNat)).bind fun t381 => ((tripartiteref01_Same.f kj107 t378 t381).bind fun t384 => (if t384 = true then ((tripartiteref06_Cut.f a0_1 a0_2 (l1_0.take ((ji4) : Int).toNat)).bind fun t385 => ((tripartiteref06_Cut.f a0_5 a0_6 (l1_2.take ((ji10) : Int).toNat)).bind fun t388 => ((tripartiteref01_Same.f kj107 t385 t388).bind fun t391 => (if t391 = true then (some (t372 == 2)) else (some (t372 == (rd y374 t364))))))) else (some (t372 == (rd y374 t364)))))))) else (none)) else (none))) else (none)))))) = some r := by rw [if_neg (show ¬ (false = true) by decide)] at H; exact H
                  clear H
                  have H := H1
                  clear H1
                  replace H := Option.bind_eq_some_iff.mp H
                  obtain ⟨t364, A1270, H⟩ := H
                  try dsimp only at H
                  have A127 := Aside0.mk A1270
                  clear A1270
                  replace H := Option.bind_eq_some_iff.mp H
                  obtain ⟨⟨t365, t366, t367, t368, t369, t370, t371⟩, A1280, H⟩ := H
                  replace H : ((chunk_Chunk_Class.f kj107 t365 t366 t367 t368 t369 t370 t371 (l1_0.take ((ji4) : Int).toNat) (l1_2.take ((ji10) : Int).toNat) (l1_1.take ((ji7) : Int).toNat)).bind fun t372 => ((tripartiteref06_Class.f kj107 a0_0 a0_1 a0_2 a0_3 a0_4 a0_5 a0_6 (l1_0.take ((ji4) : Int).toNat) (l1_1.take ((ji7) : Int).toNat) (l1_2.take ((ji10) : Int).toNat)).bind fun t373 => (if t364 = t373 then ((some (([0, 2, 1, 3, 4] : List Int) : List Int)).bind fun y374 => (if 0 ≤ t364 then (if t364 < (y374.length : Int) then (if a0_0 = true then (some (t372 == (rd y374 t364))) else ((tripartiteref06_Cut.f a0_1 a0_2 (l1_0.take ((ji4) : Int).toNat)).bind fun t378 => ((tripartiteref06_Cut.f a0_3 a0_4 (l1_1.take ((ji7) : Int).toNat)).bind fun t381 => ((tripartiteref01_Same.f kj107 t378 t381).bind fun t384 => (if t384 = true then ((tripartiteref06_Cut.f a0_1 a0_2 (l1_0.take ((ji4) : Int).toNat)).bind fun t385 => ((tripartiteref06_Cut.f a0_5 a0_6 (l1_2.take ((ji10) : Int).toNat)).bind fun t388 => ((tripartiteref01_Same.f kj107 t385 t388).bind fun t391 => (if t391 = true then (some (t372 == 2)) else (some (t372 == (rd y374 t364))))))) else (some (t372 == (rd y374 t364)))))))) else (none)) else (none))) else (none)))) = some r := H
                  have A128 := Aside0.mk A1280
                  clear A1280
                  replace H := Option.bind_eq_some_iff.mp H
                  obtain ⟨t372, A1290, H⟩ := H
                  try dsimp only at H
                  have A129 := Aside0.mk A1290
                  clear A1290
                  replace H := Option.bind_eq_some_iff.mp H
                  obtain ⟨t373, A1300, H⟩ := H
                  try dsimp only at H
                  have A130 := Aside0.mk A1300
                  clear A1300
                  by_cases c131 : t364 = t373
                  ·rw [if_pos c131] at H
                   have c131b0 : (t364 == t373) = true := beq_iff_eq.mpr c131
                   have c131b1 : (t364 != t373) = false := bne_eq_false_iff_eq.mpr c131
                   clear c131
                   obtain ⟨y374, hy374⟩ : ∃ y_ : List Int, y_ = (([0, 2, 1, 3, 4] : List Int)) := ⟨_, rfl⟩
                   replace H : (if 0 ≤ t364 then (if t364 < (y374.length : Int) then (if a0_0 = true then (some (t372 == (rd y374 t364))) else ((tripartiteref06_Cut.f a0_1 a0_2 (l1_0.take ((ji4) : Int).toNat)).bind fun t378 => ((tripartiteref06_Cut.f a0_3 a0_4 (l1_1.take ((ji7) : Int).toNat)).bind fun t381 => ((tripartiteref01_Same.f kj107 t378 t381).bind fun t384 => (if t384 = true then ((tripartiteref06_Cut.f a0_1 a0_2 (l1_0.take ((ji4) : Int).toNat)).bind fun t385 => ((tripartiteref06_Cut.f a0_5 a0_6 (l1_2.take ((ji10) : Int).toNat)).bind fun t388 => ((tripartiteref01_Same.f kj107 t385 t388).bind fun t391 => (if t391 = true then (some (t372 == 2)) else (some (t372 == (rd y374 t364))))))) else (some (t372 == (rd y374 t364)))))))) else (none)) else (none)) = some r := by first | (rw [hy374]; with_reducible exact H) | (have H2_ := (Option.bind_some _ _).symm.trans H; rw [hy374]; with_reducible exact H2_) | (have H2_ := (Option.bind_some _ _).symm.trans H; with_reducible exact H2_) | with_reducible exact H | (rw [hy374]; exact H) | exact H
                   have Ny374 := Aside0.mk hy374
                   clear hy374
                   by_cases c132 : 0 ≤ t364
                   ·rw [if_pos c132] at H
                    have c132b0 : decide (0 ≤ t364) = true := decide_eq_true c132
                    clear c132
                    by_cases c133 : t364 < (y374.length : Int)
                    ·rw [if_pos c133] at H
                     have c133b0 : decide (t364 < (y374.length : Int)) = true := decide_eq_true c133
                     clear c133
                     by_cases c134 : a0_0 = true
                     ·subst c134
                      have H1 : (some (t372 == (rd y374 t364))) = some r := by rw [if_pos rfl] at H; exact H
                      clear H
                      have H := H1
                      clear H1
                      obtain rfl := Option.some.inj H
                      try go_wp2
                      replace BK332 := Aside0.mk (blk_drew BK332.out)
                      replace BK333 := Aside0.mk (blk_drew BK333.out)
                      replace BK334 := Aside0.mk (blk_drew BK334.out)
                      replace BK345 := Aside0.mk (blk_drew BK345.out)
                      replace BK346 := Aside0.mk (blk_drew BK346.out)
                      replace HB := Aside0.mk (below_drew1 HB.out)
                      refine start_ (n := 13) (S := fun w' => w'.cell? ⟨gb345, 0, none⟩ = some (.bool t338) ∧ w'.cell? ⟨gb345, 1, none⟩ = some (.int .i64 t339) ∧ w'.cell? ⟨gb345, 2, none⟩ = some (.int .i64 t340) ∧ w'.cell? ⟨gb345, 3, none⟩ = some (.int .i64 t341) ∧ w'.cell? ⟨gb345, 4, none⟩ = some (.int .i64 t342) ∧ w'.cell? ⟨gb345, 5, none⟩ = some (.int .i64 t343) ∧ w'.cell? ⟨gb345, 6, none⟩ = some (.int .i64 t344)) (ds := []) fl78 (by kernel_rfl) rfl rfl ⟨(blk_cell BK345.out 0).trans rfl, (blk_cell BK345.out 1).trans rfl, (blk_cell BK345.out 2).trans rfl, (blk_cell BK345.out 3).trans rfl, (blk_cell BK345.out 4).trans rfl, (blk_cell BK345.out 5).trans rfl, (blk_cell BK345.out 6).trans rfl⟩ (fun hHeld => ?_); refine with_tabW tripartitelaw06_ChunkClasses.tab16 tripartitelaw06_ChunkClasses.bits16 (fun HT_ HW_ => ?_)
                      generalize wc.drew = w135 at BK332 BK333 BK334 BK345 BK346 HB hHeld ⊢
                      refine pu 1 (some 135) fl79 rfl rfl HT_.out (fun _ _ _ h => h) (h := ?_)
                      refine pu 2 (some 136) fl80 rfl rfl HT_.out (fun _ _ _ h => h) (h := ?_)
                      refine pu 3 (some 137) fl81 rfl rfl HT_.out (fun _ _ _ h => h) (h := ?_)
                      refine pu 7 (some 141) fl82 rfl rfl HT_.out (fun _ _ _ h => h) (h := ?_)
                      refine pu 8 (some 142) fl83 rfl rfl HT_.out (fun _ _ _ h => h) (h := ?_)
                      refine pu 9 (some 143) fl84 rfl rfl HT_.out (fun _ _ _ h => h) (h := ?_)
                      refine tk 0 (some 134) fl85 rfl rfl HT_.out HW_.out (fun _ _ _ h => h) hHeld (hy := by rintro w' ⟨s0, s1, s2, s3, s4, s5, s6⟩; go_simp; with_reducible rfl) (h := ?_)
                      refine tk 5 (some 139) fl86 rfl rfl HT_.out HW_.out (fun _ _ _ h => h) hHeld (hy := by rintro w' ⟨s0, s1, s2, s3, s4, s5, s6⟩; go_simp; with_reducible rfl) (h := ?_)
                      refine one_ (i := 4) (N := some 138) fl87 rfl rfl (one_of HT_.out (by kernel_rfl)) (by decide) (fun K hK => ?_)
                      refine goes_ Try.func19 (by kernel_rfl) rfl #[.agg #[.bool t338, .int .i64 t339, .int .i64 t340, .int .i64 t341, .int .i64 t342, .int .i64 t343, .int .i64 t344], .slice A1_0 (l1_0.take ((ji4) : Int).toNat).length c1_0, .slice A1_1 (l1_1.take ((ji7) : Int).toNat).length c1_1, .slice A1_2 (l1_2.take ((ji10) : Int).toNat).length c1_2] (by rfl) rfl rfl (by (try simp only [List.map_toArray, List.map_cons, List.map_nil]); first | done | (rw [TLji4.out, TLji7.out, TLji10.out] <;> rfl) | (simp only [hji10, hji4, hji7]; rfl) | rfl | (simp only [List.length_drop, List.length_take]; rfl)) ?_
                      with_reducible refine (chunk_Chunk_Class.calls kj107 t338 t339 t340 t341 t342 t343 t344 _ _ (l1_0.take ((ji4) : Int).toNat) _ _ (l1_1.take ((ji7) : Int).toNat) _ _ (l1_2.take ((ji10) : Int).toNat) t364 _ ?side1 ?side2 ?side3 ?side4 ?side5 ?side6 A127.out).mono ?_
                      (case side1 => repeat (first | exact (Kd.C_below HR335.out HB.out) | (with_reducible refine Kd.C_alloc ?_ _) | (with_reducible refine Kd.C_drewN ?_ _) | (with_reducible refine Kd.C_drew ?_)))
                      (case side2 => exact HC335.out)
                      (case side3 => repeat (first | exact (Kd.C_below HR336.out HB.out) | (with_reducible refine Kd.C_alloc ?_ _) | (with_reducible refine Kd.C_drewN ?_ _) | (with_reducible refine Kd.C_drew ?_)))
                      (case side4 => exact HC336.out)
                      (case side5 => repeat (first | exact (Kd.C_below HR337.out HB.out) | (with_reducible refine Kd.C_alloc ?_ _) | (with_reducible refine Kd.C_drewN ?_ _) | (with_reducible refine Kd.C_drew ?_)))
                      (case side6 => exact HC337.out)
                      rintro e w136 ⟨rfl, hb⟩
                      refine ⟨_, rfl, ?_⟩
                      replace BK332 := bb hb BK332.out
                      replace BK333 := bb hb BK333.out
                      replace BK334 := bb hb BK334.out
                      replace BK345 := bb hb BK345.out
                      replace BK346 := bb hb BK346.out
                      replace HB := Aside0.mk (below_step (by repeat (first | (with_reducible first | exact HB.out | apply below_alloc | apply pw_below_drewN | apply below_drew1) | exact HB.out)) hb)
                      refine hK.out _ _ ⟨(blk_cell BK345.out 0).trans rfl, (blk_cell BK345.out 1).trans rfl, (blk_cell BK345.out 2).trans rfl, (blk_cell BK345.out 3).trans rfl, (blk_cell BK345.out 4).trans rfl, (blk_cell BK345.out 5).trans rfl, (blk_cell BK345.out 6).trans rfl⟩ (fun hHeld => ?_)
                      clear hK K
                      refine nm (h := ?_)
                      refine one_ (i := 6) (N := some 140) fl88 rfl rfl (one_of HT_.out (by kernel_rfl)) (by decide) (fun K hK => ?_)
                      refine goes_ Try.func13 (by kernel_rfl) rfl #[.agg #[.bool t338, .int .i64 t339, .int .i64 t340, .int .i64 t341, .int .i64 t342, .int .i64 t343, .int .i64 t344]] (by rfl) rfl rfl (by (try simp only [List.map_toArray, List.map_cons, List.map_nil]); first | done | rfl | (simp only [List.length_drop, List.length_take]; rfl)) ?_
                      with_reducible refine (chunk_Chunk_Turned.calls t338 t339 t340 t341 t342 t343 t344 t365 t366 t367 t368 t369 t370 t371 _ A128.out).mono ?_
                      rintro e w137 ⟨rfl, hb⟩
                      refine ⟨_, rfl, ?_⟩
                      replace BK332 := bb hb BK332.out
                      replace BK333 := bb hb BK333.out
                      replace BK334 := bb hb BK334.out
                      replace BK345 := bb hb BK345.out
                      replace BK346 := bb hb BK346.out
                      replace HB := Aside0.mk (below_step (by repeat (first | (with_reducible first | exact HB.out | apply below_alloc | apply pw_below_drewN | apply below_drew1) | exact HB.out)) hb)
                      refine hK.out _ _ ⟨(blk_cell BK345.out 0).trans rfl, (blk_cell BK345.out 1).trans rfl, (blk_cell BK345.out 2).trans rfl, (blk_cell BK345.out 3).trans rfl, (blk_cell BK345.out 4).trans rfl, (blk_cell BK345.out 5).trans rfl, (blk_cell BK345.out 6).trans rfl⟩ (fun hHeld => ?_)
                      clear hK K
                      refine nm (h := ?_)
                      refine one_ (i := 10) (N := some 144) fl89 rfl rfl (one_of HT_.out (by kernel_rfl)) (by decide) (fun K hK => ?_)
                      refine goes_ Try.func19 (by kernel_rfl) rfl #[.agg #[.bool t365, .int .i64 t366, .int .i64 t367, .int .i64 t368, .int .i64 t369, .int .i64 t370, .int .i64 t371], .slice A1_0 (l1_0.take ((ji4) : Int).toNat).length c1_0, .slice A1_2 (l1_2.take ((ji10) : Int).toNat).length c1_2, .slice A1_1 (l1_1.take ((ji7) : Int).toNat).length c1_1] (by rfl) rfl rfl (by (try simp only [List.map_toArray, List.map_cons, List.map_nil]); first | done | (rw [TLji4.out, TLji7.out, TLji10.out] <;> rfl) | (simp only [hji10, hji4, hji7]; rfl) | rfl | (simp only [List.length_drop, List.length_take]; rfl)) ?_
                      with_reducible refine (chunk_Chunk_Class.calls kj107 t365 t366 t367 t368 t369 t370 t371 _ _ (l1_0.take ((ji4) : Int).toNat) _ _ (l1_2.take ((ji10) : Int).toNat) _ _ (l1_1.take ((ji7) : Int).toNat) t372 _ ?side1 ?side2 ?side3 ?side4 ?side5 ?side6 A129.out).mono ?_
                      (case side1 => repeat (first | exact (Kd.C_below HR335.out HB.out) | (with_reducible refine Kd.C_alloc ?_ _) | (with_reducible refine Kd.C_drewN ?_ _) | (with_reducible refine Kd.C_drew ?_)))
                      (case side2 => exact HC335.out)
                      (case side3 => repeat (first | exact (Kd.C_below HR337.out HB.out) | (with_reducible refine Kd.C_alloc ?_ _) | (with_reducible refine Kd.C_drewN ?_ _) | (with_reducible refine Kd.C_drew ?_)))
                      (case side4 => exact HC337.out)
                      (case side5 => repeat (first | exact (Kd.C_below HR336.out HB.out) | (with_reducible refine Kd.C_alloc ?_ _) | (with_reducible refine Kd.C_drewN ?_ _) | (with_reducible refine Kd.C_drew ?_)))
                      (case side6 => exact HC336.out)
                      rintro e w138 ⟨rfl, hb⟩
                      refine ⟨_, rfl, ?_⟩
                      replace BK332 := bb hb BK332.out
                      replace BK333 := bb hb BK333.out
                      replace BK334 := bb hb BK334.out
                      replace BK345 := bb hb BK345.out
                      replace BK346 := bb hb BK346.out
                      replace HB := Aside0.mk (below_step (by repeat (first | (with_reducible first | exact HB.out | apply below_alloc | apply pw_below_drewN | apply below_drew1) | exact HB.out)) hb)
                      refine hK.out _ _ ⟨(blk_cell BK345.out 0).trans rfl, (blk_cell BK345.out 1).trans rfl, (blk_cell BK345.out 2).trans rfl, (blk_cell BK345.out 3).trans rfl, (blk_cell BK345.out 4).trans rfl, (blk_cell BK345.out 5).trans rfl, (blk_cell BK345.out 6).trans rfl⟩ (fun hHeld => ?_)
                      clear hK K
                      refine nm (h := ?_)
                      refine pu 11 (some 14) fl90 rfl rfl HT_.out (fun _ _ _ h => h) (h := ?_)
                      refine pu 12 (some 15) fl91 rfl rfl HT_.out (fun _ _ _ h => h) (h := ?_)
                      refine done_ (done_of HT_.out (by kernel_rfl)) ?_
                      have hnb139 := NB332_333.out
                      have hnc139 := NB333_332.out
                      have hnb140 := NB332_334.out
                      have hnc140 := NB334_332.out
                      have hnb141 := NB332_345.out
                      have hnc141 := NB345_332.out
                      have hnb142 := NB332_346.out
                      have hnc142 := NB346_332.out
                      have hcz143_0 : w138.cell? ⟨gb332, 0, none⟩ = some (.bool true) := (blk_cell BK332.out 0).trans rfl
                      have hcz143_1 : w138.cell? ⟨gb332, 1, none⟩ = some (.int .i64 a0_1) := (blk_cell BK332.out 1).trans rfl
                      have hcz143_2 : w138.cell? ⟨gb332, 2, none⟩ = some (.int .i64 a0_2) := (blk_cell BK332.out 2).trans rfl
                      have hcz143_3 : w138.cell? ⟨gb332, 3, none⟩ = some (.int .i64 a0_3) := (blk_cell BK332.out 3).trans rfl
                      have hcz143_4 : w138.cell? ⟨gb332, 4, none⟩ = some (.int .i64 a0_4) := (blk_cell BK332.out 4).trans rfl
                      have hcz143_5 : w138.cell? ⟨gb332, 5, none⟩ = some (.int .i64 a0_5) := (blk_cell BK332.out 5).trans rfl
                      have hcz143_6 : w138.cell? ⟨gb332, 6, none⟩ = some (.int .i64 a0_6) := (blk_cell BK332.out 6).trans rfl
                      have hfz143_0 := blk_frozen BK332.out 0
                      have hfz143_1 := blk_frozen BK332.out 1
                      have hfz143_2 := blk_frozen BK332.out 2
                      have hfz143_3 := blk_frozen BK332.out 3
                      have hfz143_4 := blk_frozen BK332.out 4
                      have hfz143_5 := blk_frozen BK332.out 5
                      have hfz143_6 := blk_frozen BK332.out 6
                      try go_wp2_with (first | ((with_reducible refine gate_callee (f := 20) rfl ?_); refine goesL_ (some 150) rfl rfl Try.func20 (by kernel_rfl) rfl #[.agg #[.bool true, .int .i64 a0_1, .int .i64 a0_2, .int .i64 a0_3, .int .i64 a0_4, .int .i64 a0_5, .int .i64 a0_6], .slice A1_0 (l1_0.take ((ji4) : Int).toNat).length c1_0, .slice A1_1 (l1_1.take ((ji7) : Int).toNat).length c1_1, .slice A1_2 (l1_2.take ((ji10) : Int).toNat).length c1_2] rfl (by (try simp only [List.map_toArray, List.map_cons, List.map_nil]); first | done | (rw [TLji4.out, TLji7.out, TLji10.out] <;> rfl) | (simp only [hji10, hji4, hji7]; rfl) | rfl | (simp only [List.length_drop, List.length_take]; rfl)) ?_; (with_reducible refine (tripartiteref06_Class.calls kj107 true a0_1 a0_2 a0_3 a0_4 a0_5 a0_6 _ _ (l1_0.take ((ji4) : Int).toNat) _ _ (l1_1.take ((ji7) : Int).toNat) _ _ (l1_2.take ((ji10) : Int).toNat) t373 _ ?side1 ?side2 ?side3 ?side4 ?side5 ?side6 A130.out).mono ?_); (case side1 => repeat (first | exact (Kd.C_below HR335.out HB.out) | (with_reducible refine Kd.C_alloc ?_ _) | (with_reducible refine Kd.C_drewN ?_ _) | (with_reducible refine Kd.C_drew ?_))); (case side2 => exact HC335.out); (case side3 => repeat (first | exact (Kd.C_below HR336.out HB.out) | (with_reducible refine Kd.C_alloc ?_ _) | (with_reducible refine Kd.C_drewN ?_ _) | (with_reducible refine Kd.C_drew ?_))); (case side4 => exact HC336.out); (case side5 => repeat (first | exact (Kd.C_below HR337.out HB.out) | (with_reducible refine Kd.C_alloc ?_ _) | (with_reducible refine Kd.C_drewN ?_ _) | (with_reducible refine Kd.C_drew ?_))); (case side6 => exact HC337.out); rintro e w144 ⟨rfl, hb⟩; refine ⟨_, rfl, ?_⟩; have n0_ := bb hb BK332.out; have n1_ := bb hb BK333.out; have n2_ := bb hb BK334.out; have n3_ := bb hb BK345.out; have n4_ := bb hb BK346.out; have n5_ := Aside0.mk (below_step (by repeat (first | (with_reducible first | exact HB.out | apply below_alloc | apply pw_below_drewN | apply below_drew1 | refine below_set ?_ GE332.out | refine below_set ?_ GE333.out | refine below_set ?_ GE334.out | refine below_set ?_ GE345.out | refine below_set ?_ GE346.out) | exact HB.out)) hb); clear BK332; clear BK333; clear BK334; clear BK345; clear BK346; clear HB; have BK332 := n0_; have BK333 := n1_; have BK334 := n2_; have BK345 := n3_; have BK346 := n4_; have HB := n5_; clear n0_ n1_ n2_ n3_ n4_ n5_; (try clear hb); (try clear hb2); (try clear hk); (try clear hi)) | ((with_reducible refine gate_dst (N := 152) rfl ?_); (try (refine gate_guard (by rfl) ?_; dsimp only)); refine Kd.R_lit (Kd.int .i64) _ 3 ?hg (N := 152) ?hd (xs := ([0, 2, 1, 3, 4] : List Int)) (inner := [.int .i64 0, .int .i64 2, .int .i64 1, .int .i64 3, .int .i64 4]) (ok := fun _ => True) (okp := fun _ => True) ?hr ?hp (fun _ hk => hk) trivial (Below.refl _ _) (Nat.le_refl _) (by simp) ?_; (case hd => rfl); (case hg => rfl); (case hr => first | (go_simp; done) | (go_simp; rfl)); (case hp => exact (Reps.one (show Kd.M (Kd.int .i64) _ _ _ 0 [.int .i64 0] from rfl) (Reps.one (show Kd.M (Kd.int .i64) _ _ _ 2 [.int .i64 2] from rfl) (Reps.one (show Kd.M (Kd.int .i64) _ _ _ 1 [.int .i64 1] from rfl) (Reps.one (show Kd.M (Kd.int .i64) _ _ _ 3 [.int .i64 3] from rfl) (Reps.one (show Kd.M (Kd.int .i64) _ _ _ 4 [.int .i64 4] from rfl) (Reps.none _ _))))))); intro v375 w145 ho146 hb hg_ hnew_; clear hg_ hnew_; (first | rw [← Ny374.out] at ho146 | (simp only [Int.reduceToNat] at ho146; rw [← Ny374.out] at ho146)); have n0_ := Aside0.mk (Kd.R_lower ho146 (below_size (by repeat (first | (with_reducible first | exact HB.out | apply below_alloc | apply pw_below_drewN | apply below_drew1 | refine below_set ?_ GE332.out | refine below_set ?_ GE333.out | refine below_set ?_ GE334.out | refine below_set ?_ GE345.out | refine below_set ?_ GE346.out) | exact HB.out)))); have n1_ := bb hb BK332.out; have n2_ := bb hb BK333.out; have n3_ := bb hb BK334.out; have n4_ := bb hb BK345.out; have n5_ := bb hb BK346.out; have n6_ := Aside0.mk (below_step (by repeat (first | (with_reducible first | exact HB.out | apply below_alloc | apply pw_below_drewN | apply below_drew1 | refine below_set ?_ GE332.out | refine below_set ?_ GE333.out | refine below_set ?_ GE334.out | refine below_set ?_ GE345.out | refine below_set ?_ GE346.out) | exact HB.out)) hb); clear BK332; clear BK333; clear BK334; clear BK345; clear BK346; clear HB; have HO376 := n0_; have BK332 := n1_; have BK333 := n2_; have BK334 := n3_; have BK345 := n4_; have BK346 := n5_; have HB := n6_; clear n0_ n1_ n2_ n3_ n4_ n5_ n6_; clear hb ho146; obtain ⟨Ao147, co147, eo147⟩ := Kd.R_slice HO376.out; subst eo147; have p377 : 0 ≤ (t364 : Int) := of_decide_eq_true (by first | (with_reducible assumption) | assumption); have q377 : t364 < (y374.length : Int) := of_decide_eq_true (by first | (with_reducible assumption) | assumption); obtain ⟨ad377, e377, hx377_0⟩ := Kd.at_int (Kd.R_reads' HO376.out).2.2 t364 p377 q377; cases e377; replace p377 := eq_true p377; replace q377 := eq_true q377))
                      replace HO376 := Aside0.mk (Kd.R_drew HO376.out)
                      replace BK332 := Aside0.mk (blk_drew BK332.out)
                      replace BK333 := Aside0.mk (blk_drew BK333.out)
                      replace BK334 := Aside0.mk (blk_drew BK334.out)
                      replace BK345 := Aside0.mk (blk_drew BK345.out)
                      replace BK346 := Aside0.mk (blk_drew BK346.out)
                      replace HB := Aside0.mk (below_drew1 HB.out)
                      refine start_ (n := 25) (S := fun w' => w'.cell? ⟨gb332, 0, none⟩ = some (.bool true) ∧ w'.cell? ⟨gb332, 1, none⟩ = some (.int .i64 a0_1) ∧ w'.cell? ⟨gb332, 2, none⟩ = some (.int .i64 a0_2) ∧ w'.cell? ⟨gb332, 3, none⟩ = some (.int .i64 a0_3) ∧ w'.cell? ⟨gb332, 4, none⟩ = some (.int .i64 a0_4) ∧ w'.cell? ⟨gb332, 5, none⟩ = some (.int .i64 a0_5) ∧ w'.cell? ⟨gb332, 6, none⟩ = some (.int .i64 a0_6)) (ds := []) fl92 (by kernel_rfl) rfl rfl ⟨(blk_cell BK332.out 0).trans rfl, (blk_cell BK332.out 1).trans rfl, (blk_cell BK332.out 2).trans rfl, (blk_cell BK332.out 3).trans rfl, (blk_cell BK332.out 4).trans rfl, (blk_cell BK332.out 5).trans rfl, (blk_cell BK332.out 6).trans rfl⟩ (fun hHeld => ?_); refine with_tabW tripartitelaw06_ChunkClasses.tab20 tripartitelaw06_ChunkClasses.bits20 (fun HT_ HW_ => ?_)
                      generalize w145.drew = w148 at HO376 BK332 BK333 BK334 BK345 BK346 HB hHeld ⊢
                      refine pu 0 (some 156) fl93 rfl rfl HT_.out (fun _ _ _ h => h) (h := ?_)
                      refine tk 1 (some 157) fl94 rfl rfl HT_.out HW_.out (fun _ _ _ h => h) hHeld (hy := by rintro w' ⟨s0, s1, s2, s3, s4, s5, s6⟩; go_simp; with_reducible rfl) (h := ?_)
                      refine pu 2 (some 158) fl95 rfl rfl HT_.out (fun _ _ _ h => h) (h := ?_)
                      refine pu 3 (some 159) fl96 rfl rfl HT_.out (fun _ _ _ h => h) (h := ?_)
                      refine un 4 (some 160) fl97 rfl rfl HT_.out (fun _ _ _ h => h) (h := ?_)
                      refine un 5 (some 161) fl98 rfl rfl HT_.out (fun _ _ _ h => h) (h := ?_)
                      refine un 6 (some 162) fl99 rfl rfl HT_.out (fun _ _ _ h => h) (h := ?_)
                      refine un 7 (some 163) fl100 rfl rfl HT_.out (fun _ _ _ h => h) (h := ?_)
                      refine un 8 (some 164) fl101 rfl rfl HT_.out (fun _ _ _ h => h) (h := ?_)
                      refine un 9 (some 165) fl102 rfl rfl HT_.out (fun _ _ _ h => h) (h := ?_)
                      refine un 10 (some 166) fl103 rfl rfl HT_.out (fun _ _ _ h => h) (h := ?_)
                      refine un 11 (some 167) fl104 rfl rfl HT_.out (fun _ _ _ h => h) (h := ?_)
                      refine un 12 (some 168) fl105 rfl rfl HT_.out (fun _ _ _ h => h) (h := ?_)
                      refine pu 13 (some 169) fl106 rfl rfl HT_.out (fun _ _ _ h => h) (h := ?_)
                      refine pu 14 (some 170) fl107 rfl rfl HT_.out (fun _ _ _ h => h) (h := ?_)
                      refine un 15 (some 171) fl108 rfl rfl HT_.out (fun _ _ _ h => h) (h := ?_)
                      refine un 16 (some 172) fl109 rfl rfl HT_.out (fun _ _ _ h => h) (h := ?_)
                      refine un 17 (some 173) fl110 rfl rfl HT_.out (fun _ _ _ h => h) (h := ?_)
                      refine un 18 (some 174) fl111 rfl rfl HT_.out (fun _ _ _ h => h) (h := ?_)
                      refine un 19 (some 175) fl112 rfl rfl HT_.out (fun _ _ _ h => h) (h := ?_)
                      refine un 20 (some 176) fl113 rfl rfl HT_.out (fun _ _ _ h => h) (h := ?_)
                      refine un 21 (some 177) fl114 rfl rfl HT_.out (fun _ _ _ h => h) (h := ?_)
                      refine un 22 (some 178) fl115 rfl rfl HT_.out (fun _ _ _ h => h) (h := ?_)
                      refine un 23 (some 179) fl116 rfl rfl HT_.out (fun _ _ _ h => h) (h := ?_)
                      refine pu 24 (some 180) fl117 rfl rfl HT_.out (fun _ _ _ h => h) (h := ?_)
                      refine done_ (done_of HT_.out (by kernel_rfl)) ?_
                      try go_wp2
                      go_ret
                      exact ⟨by first | rfl | (simp [errW_none, errW_some] <;> rfl) | (simp only [← hji4, ← hji7, ← hji10]; first | rfl | (simp [errW_none, errW_some] <;> rfl)) | (simp [*, errW_none, errW_some] <;> rfl), by repeat (first | (with_reducible first | exact HB.out | apply below_alloc | apply pw_below_drewN | apply below_drew1 | refine below_set ?_ GE332.out | refine below_set ?_ GE333.out | refine below_set ?_ GE334.out | refine below_set ?_ GE345.out | refine below_set ?_ GE346.out) | exact HB.out)⟩
                     ·replace c134 := Bool.eq_false_iff.mpr c134
                      subst c134
                      have H1 : ((tripartiteref06_Cut.f a0_1 a0_2 (l1_0.take ((ji4) : Int).toNat)).bind fun t378 => ((tripartiteref06_Cut.f a0_3 a0_4 (l1_1.take ((ji7) : Int).toNat)).bind fun t381 => ((tripartiteref01_Same.f kj107 t378 t381).bind fun t384 => (if t384 = true then ((tripartiteref06_Cut.f a0_1 a0_2 (l1_0.take ((ji4) : Int).toNat)).bind fun t385 => ((tripartiteref06_Cut.f a0_5 a0_6 (l1_2.take ((ji10) : Int).toNat)).bind fun t388 => ((tripartiteref01_Same.f kj107 t385 t388).bind fun t391 => (if t391 = true then (some (t372 == 2)) else (some (t372 == (rd y374 t364))))))) else (some (t372 == (rd y374 t364))))))) = some r := by rw [if_neg (show ¬ (false = true) by decide)] at H; exact H
                      clear H
                      have H := H1
                      clear H1
                      replace H := Option.bind_eq_some_iff.mp H
                      obtain ⟨t378, A1490, H⟩ := H
                      try dsimp only at H
                      have A149 := Aside0.mk A1490
                      clear A1490
                      replace H := Option.bind_eq_some_iff.mp H
                      obtain ⟨t381, A1500, H⟩ := H
                      try dsimp only at H
                      have A150 := Aside0.mk A1500
                      clear A1500
                      replace H := Option.bind_eq_some_iff.mp H
                      obtain ⟨t384, A1510, H⟩ := H
                      try dsimp only at H
                      have A151 := Aside0.mk A1510
                      clear A1510
                      by_cases c152 : t384 = true
                      ·subst c152
                       have H1 : ((tripartiteref06_Cut.f a0_1 a0_2 (l1_0.take ((ji4) : Int).toNat)).bind fun t385 => ((tripartiteref06_Cut.f a0_5 a0_6 (l1_2.take ((ji10) : Int).toNat)).bind fun t388 => ((tripartiteref01_Same.f kj107 t385 t388).bind fun t391 => (if t391 = true then (some (t372 == 2)) else (some (t372 == (rd y374 t364))))))) = some r := by rw [if_pos rfl] at H; exact H
                       clear H
                       have H := H1
                       clear H1
                       replace H := Option.bind_eq_some_iff.mp H
                       obtain ⟨t385, A1530, H⟩ := H
                       try dsimp only at H
                       have A153 := Aside0.mk A1530
                       clear A1530
                       replace H := Option.bind_eq_some_iff.mp H
                       obtain ⟨t388, A1540, H⟩ := H
                       try dsimp only at H
                       have A154 := Aside0.mk A1540
                       clear A1540
                       replace H := Option.bind_eq_some_iff.mp H
                       obtain ⟨t391, A1550, H⟩ := H
                       try dsimp only at H
                       have A155 := Aside0.mk A1550
                       clear A1550
                       by_cases c156 : t391 = true
                       ·subst c156
                        have H1 : (some (t372 == 2)) = some r := by rw [if_pos rfl] at H; exact H
                        clear H
                        have H := H1
                        clear H1
                        obtain rfl := Option.some.inj H
                        try go_wp2
                        replace BK332 := Aside0.mk (blk_drew BK332.out)
                        replace BK333 := Aside0.mk (blk_drew BK333.out)
                        replace BK334 := Aside0.mk (blk_drew BK334.out)
                        replace BK345 := Aside0.mk (blk_drew BK345.out)
                        replace BK346 := Aside0.mk (blk_drew BK346.out)
                        replace HB := Aside0.mk (below_drew1 HB.out)
                        refine start_ (n := 13) (S := fun w' => w'.cell? ⟨gb345, 0, none⟩ = some (.bool t338) ∧ w'.cell? ⟨gb345, 1, none⟩ = some (.int .i64 t339) ∧ w'.cell? ⟨gb345, 2, none⟩ = some (.int .i64 t340) ∧ w'.cell? ⟨gb345, 3, none⟩ = some (.int .i64 t341) ∧ w'.cell? ⟨gb345, 4, none⟩ = some (.int .i64 t342) ∧ w'.cell? ⟨gb345, 5, none⟩ = some (.int .i64 t343) ∧ w'.cell? ⟨gb345, 6, none⟩ = some (.int .i64 t344)) (ds := []) fl78 (by kernel_rfl) rfl rfl ⟨(blk_cell BK345.out 0).trans rfl, (blk_cell BK345.out 1).trans rfl, (blk_cell BK345.out 2).trans rfl, (blk_cell BK345.out 3).trans rfl, (blk_cell BK345.out 4).trans rfl, (blk_cell BK345.out 5).trans rfl, (blk_cell BK345.out 6).trans rfl⟩ (fun hHeld => ?_); refine with_tabW tripartitelaw06_ChunkClasses.tab16 tripartitelaw06_ChunkClasses.bits16 (fun HT_ HW_ => ?_)
                        generalize wc.drew = w157 at BK332 BK333 BK334 BK345 BK346 HB hHeld ⊢
                        refine pu 1 (some 135) fl79 rfl rfl HT_.out (fun _ _ _ h => h) (h := ?_)
                        refine pu 2 (some 136) fl80 rfl rfl HT_.out (fun _ _ _ h => h) (h := ?_)
                        refine pu 3 (some 137) fl81 rfl rfl HT_.out (fun _ _ _ h => h) (h := ?_)
                        refine pu 7 (some 141) fl82 rfl rfl HT_.out (fun _ _ _ h => h) (h := ?_)
                        refine pu 8 (some 142) fl83 rfl rfl HT_.out (fun _ _ _ h => h) (h := ?_)
                        refine pu 9 (some 143) fl84 rfl rfl HT_.out (fun _ _ _ h => h) (h := ?_)
                        refine tk 0 (some 134) fl85 rfl rfl HT_.out HW_.out (fun _ _ _ h => h) hHeld (hy := by rintro w' ⟨s0, s1, s2, s3, s4, s5, s6⟩; go_simp; with_reducible rfl) (h := ?_)
                        refine tk 5 (some 139) fl86 rfl rfl HT_.out HW_.out (fun _ _ _ h => h) hHeld (hy := by rintro w' ⟨s0, s1, s2, s3, s4, s5, s6⟩; go_simp; with_reducible rfl) (h := ?_)
                        refine one_ (i := 4) (N := some 138) fl87 rfl rfl (one_of HT_.out (by kernel_rfl)) (by decide) (fun K hK => ?_)
                        refine goes_ Try.func19 (by kernel_rfl) rfl #[.agg #[.bool t338, .int .i64 t339, .int .i64 t340, .int .i64 t341, .int .i64 t342, .int .i64 t343, .int .i64 t344], .slice A1_0 (l1_0.take ((ji4) : Int).toNat).length c1_0, .slice A1_1 (l1_1.take ((ji7) : Int).toNat).length c1_1, .slice A1_2 (l1_2.take ((ji10) : Int).toNat).length c1_2] (by rfl) rfl rfl (by (try simp only [List.map_toArray, List.map_cons, List.map_nil]); first | done | (rw [TLji4.out, TLji7.out, TLji10.out] <;> rfl) | (simp only [hji10, hji4, hji7]; rfl) | rfl | (simp only [List.length_drop, List.length_take]; rfl)) ?_
                        with_reducible refine (chunk_Chunk_Class.calls kj107 t338 t339 t340 t341 t342 t343 t344 _ _ (l1_0.take ((ji4) : Int).toNat) _ _ (l1_1.take ((ji7) : Int).toNat) _ _ (l1_2.take ((ji10) : Int).toNat) t364 _ ?side1 ?side2 ?side3 ?side4 ?side5 ?side6 A127.out).mono ?_
                        (case side1 => repeat (first | exact (Kd.C_below HR335.out HB.out) | (with_reducible refine Kd.C_alloc ?_ _) | (with_reducible refine Kd.C_drewN ?_ _) | (with_reducible refine Kd.C_drew ?_)))
                        (case side2 => exact HC335.out)
                        (case side3 => repeat (first | exact (Kd.C_below HR336.out HB.out) | (with_reducible refine Kd.C_alloc ?_ _) | (with_reducible refine Kd.C_drewN ?_ _) | (with_reducible refine Kd.C_drew ?_)))
                        (case side4 => exact HC336.out)
                        (case side5 => repeat (first | exact (Kd.C_below HR337.out HB.out) | (with_reducible refine Kd.C_alloc ?_ _) | (with_reducible refine Kd.C_drewN ?_ _) | (with_reducible refine Kd.C_drew ?_)))
                        (case side6 => exact HC337.out)
                        rintro e w158 ⟨rfl, hb⟩
                        refine ⟨_, rfl, ?_⟩
                        replace BK332 := bb hb BK332.out
                        replace BK333 := bb hb BK333.out
                        replace BK334 := bb hb BK334.out
                        replace BK345 := bb hb BK345.out
                        replace BK346 := bb hb BK346.out
                        replace HB := Aside0.mk (below_step (by repeat (first | (with_reducible first | exact HB.out | apply below_alloc | apply pw_below_drewN | apply below_drew1) | exact HB.out)) hb)
                        refine hK.out _ _ ⟨(blk_cell BK345.out 0).trans rfl, (blk_cell BK345.out 1).trans rfl, (blk_cell BK345.out 2).trans rfl, (blk_cell BK345.out 3).trans rfl, (blk_cell BK345.out 4).trans rfl, (blk_cell BK345.out 5).trans rfl, (blk_cell BK345.out 6).trans rfl⟩ (fun hHeld => ?_)
                        clear hK K
                        refine nm (h := ?_)
                        refine one_ (i := 6) (N := some 140) fl88 rfl rfl (one_of HT_.out (by kernel_rfl)) (by decide) (fun K hK => ?_)
                        refine goes_ Try.func13 (by kernel_rfl) rfl #[.agg #[.bool t338, .int .i64 t339, .int .i64 t340, .int .i64 t341, .int .i64 t342, .int .i64 t343, .int .i64 t344]] (by rfl) rfl rfl (by (try simp only [List.map_toArray, List.map_cons, List.map_nil]); first | done | rfl | (simp only [List.length_drop, List.length_take]; rfl)) ?_
                        with_reducible refine (chunk_Chunk_Turned.calls t338 t339 t340 t341 t342 t343 t344 t365 t366 t367 t368 t369 t370 t371 _ A128.out).mono ?_
                        rintro e w159 ⟨rfl, hb⟩
                        refine ⟨_, rfl, ?_⟩
                        replace BK332 := bb hb BK332.out
                        replace BK333 := bb hb BK333.out
                        replace BK334 := bb hb BK334.out
                        replace BK345 := bb hb BK345.out
                        replace BK346 := bb hb BK346.out
                        replace HB := Aside0.mk (below_step (by repeat (first | (with_reducible first | exact HB.out | apply below_alloc | apply pw_below_drewN | apply below_drew1) | exact HB.out)) hb)
                        refine hK.out _ _ ⟨(blk_cell BK345.out 0).trans rfl, (blk_cell BK345.out 1).trans rfl, (blk_cell BK345.out 2).trans rfl, (blk_cell BK345.out 3).trans rfl, (blk_cell BK345.out 4).trans rfl, (blk_cell BK345.out 5).trans rfl, (blk_cell BK345.out 6).trans rfl⟩ (fun hHeld => ?_)
                        clear hK K
                        refine nm (h := ?_)
                        refine one_ (i := 10) (N := some 144) fl89 rfl rfl (one_of HT_.out (by kernel_rfl)) (by decide) (fun K hK => ?_)
                        refine goes_ Try.func19 (by kernel_rfl) rfl #[.agg #[.bool t365, .int .i64 t366, .int .i64 t367, .int .i64 t368, .int .i64 t369, .int .i64 t370, .int .i64 t371], .slice A1_0 (l1_0.take ((ji4) : Int).toNat).length c1_0, .slice A1_2 (l1_2.take ((ji10) : Int).toNat).length c1_2, .slice A1_1 (l1_1.take ((ji7) : Int).toNat).length c1_1] (by rfl) rfl rfl (by (try simp only [List.map_toArray, List.map_cons, List.map_nil]); first | done | (rw [TLji4.out, TLji7.out, TLji10.out] <;> rfl) | (simp only [hji10, hji4, hji7]; rfl) | rfl | (simp only [List.length_drop, List.length_take]; rfl)) ?_
                        with_reducible refine (chunk_Chunk_Class.calls kj107 t365 t366 t367 t368 t369 t370 t371 _ _ (l1_0.take ((ji4) : Int).toNat) _ _ (l1_2.take ((ji10) : Int).toNat) _ _ (l1_1.take ((ji7) : Int).toNat) t372 _ ?side1 ?side2 ?side3 ?side4 ?side5 ?side6 A129.out).mono ?_
                        (case side1 => repeat (first | exact (Kd.C_below HR335.out HB.out) | (with_reducible refine Kd.C_alloc ?_ _) | (with_reducible refine Kd.C_drewN ?_ _) | (with_reducible refine Kd.C_drew ?_)))
                        (case side2 => exact HC335.out)
                        (case side3 => repeat (first | exact (Kd.C_below HR337.out HB.out) | (with_reducible refine Kd.C_alloc ?_ _) | (with_reducible refine Kd.C_drewN ?_ _) | (with_reducible refine Kd.C_drew ?_)))
                        (case side4 => exact HC337.out)
                        (case side5 => repeat (first | exact (Kd.C_below HR336.out HB.out) | (with_reducible refine Kd.C_alloc ?_ _) | (with_reducible refine Kd.C_drewN ?_ _) | (with_reducible refine Kd.C_drew ?_)))
                        (case side6 => exact HC336.out)
                        rintro e w160 ⟨rfl, hb⟩
                        refine ⟨_, rfl, ?_⟩
                        replace BK332 := bb hb BK332.out
                        replace BK333 := bb hb BK333.out
                        replace BK334 := bb hb BK334.out
                        replace BK345 := bb hb BK345.out
                        replace BK346 := bb hb BK346.out
                        replace HB := Aside0.mk (below_step (by repeat (first | (with_reducible first | exact HB.out | apply below_alloc | apply pw_below_drewN | apply below_drew1) | exact HB.out)) hb)
                        refine hK.out _ _ ⟨(blk_cell BK345.out 0).trans rfl, (blk_cell BK345.out 1).trans rfl, (blk_cell BK345.out 2).trans rfl, (blk_cell BK345.out 3).trans rfl, (blk_cell BK345.out 4).trans rfl, (blk_cell BK345.out 5).trans rfl, (blk_cell BK345.out 6).trans rfl⟩ (fun hHeld => ?_)
                        clear hK K
                        refine nm (h := ?_)
                        refine pu 11 (some 14) fl90 rfl rfl HT_.out (fun _ _ _ h => h) (h := ?_)
                        refine pu 12 (some 15) fl91 rfl rfl HT_.out (fun _ _ _ h => h) (h := ?_)
                        refine done_ (done_of HT_.out (by kernel_rfl)) ?_
                        have hnb161 := NB332_333.out
                        have hnc161 := NB333_332.out
                        have hnb162 := NB332_334.out
                        have hnc162 := NB334_332.out
                        have hnb163 := NB332_345.out
                        have hnc163 := NB345_332.out
                        have hnb164 := NB332_346.out
                        have hnc164 := NB346_332.out
                        have hcz165_0 : w160.cell? ⟨gb332, 0, none⟩ = some (.bool false) := (blk_cell BK332.out 0).trans rfl
                        have hcz165_1 : w160.cell? ⟨gb332, 1, none⟩ = some (.int .i64 a0_1) := (blk_cell BK332.out 1).trans rfl
                        have hcz165_2 : w160.cell? ⟨gb332, 2, none⟩ = some (.int .i64 a0_2) := (blk_cell BK332.out 2).trans rfl
                        have hcz165_3 : w160.cell? ⟨gb332, 3, none⟩ = some (.int .i64 a0_3) := (blk_cell BK332.out 3).trans rfl
                        have hcz165_4 : w160.cell? ⟨gb332, 4, none⟩ = some (.int .i64 a0_4) := (blk_cell BK332.out 4).trans rfl
                        have hcz165_5 : w160.cell? ⟨gb332, 5, none⟩ = some (.int .i64 a0_5) := (blk_cell BK332.out 5).trans rfl
                        have hcz165_6 : w160.cell? ⟨gb332, 6, none⟩ = some (.int .i64 a0_6) := (blk_cell BK332.out 6).trans rfl
                        have hfz165_0 := blk_frozen BK332.out 0
                        have hfz165_1 := blk_frozen BK332.out 1
                        have hfz165_2 := blk_frozen BK332.out 2
                        have hfz165_3 := blk_frozen BK332.out 3
                        have hfz165_4 := blk_frozen BK332.out 4
                        have hfz165_5 := blk_frozen BK332.out 5
                        have hfz165_6 := blk_frozen BK332.out 6
                        try go_wp2_with (first | ((with_reducible refine gate_callee (f := 20) rfl ?_); refine goesL_ (some 150) rfl rfl Try.func20 (by kernel_rfl) rfl #[.agg #[.bool false, .int .i64 a0_1, .int .i64 a0_2, .int .i64 a0_3, .int .i64 a0_4, .int .i64 a0_5, .int .i64 a0_6], .slice A1_0 (l1_0.take ((ji4) : Int).toNat).length c1_0, .slice A1_1 (l1_1.take ((ji7) : Int).toNat).length c1_1, .slice A1_2 (l1_2.take ((ji10) : Int).toNat).length c1_2] rfl (by (try simp only [List.map_toArray, List.map_cons, List.map_nil]); first | done | (rw [TLji4.out, TLji7.out, TLji10.out] <;> rfl) | (simp only [hji10, hji4, hji7]; rfl) | rfl | (simp only [List.length_drop, List.length_take]; rfl)) ?_; (with_reducible refine (tripartiteref06_Class.calls kj107 false a0_1 a0_2 a0_3 a0_4 a0_5 a0_6 _ _ (l1_0.take ((ji4) : Int).toNat) _ _ (l1_1.take ((ji7) : Int).toNat) _ _ (l1_2.take ((ji10) : Int).toNat) t373 _ ?side1 ?side2 ?side3 ?side4 ?side5 ?side6 A130.out).mono ?_); (case side1 => repeat (first | exact (Kd.C_below HR335.out HB.out) | (with_reducible refine Kd.C_alloc ?_ _) | (with_reducible refine Kd.C_drewN ?_ _) | (with_reducible refine Kd.C_drew ?_))); (case side2 => exact HC335.out); (case side3 => repeat (first | exact (Kd.C_below HR336.out HB.out) | (with_reducible refine Kd.C_alloc ?_ _) | (with_reducible refine Kd.C_drewN ?_ _) | (with_reducible refine Kd.C_drew ?_))); (case side4 => exact HC336.out); (case side5 => repeat (first | exact (Kd.C_below HR337.out HB.out) | (with_reducible refine Kd.C_alloc ?_ _) | (with_reducible refine Kd.C_drewN ?_ _) | (with_reducible refine Kd.C_drew ?_))); (case side6 => exact HC337.out); rintro e w166 ⟨rfl, hb⟩; refine ⟨_, rfl, ?_⟩; have n0_ := bb hb BK332.out; have n1_ := bb hb BK333.out; have n2_ := bb hb BK334.out; have n3_ := bb hb BK345.out; have n4_ := bb hb BK346.out; have n5_ := Aside0.mk (below_step (by repeat (first | (with_reducible first | exact HB.out | apply below_alloc | apply pw_below_drewN | apply below_drew1 | refine below_set ?_ GE332.out | refine below_set ?_ GE333.out | refine below_set ?_ GE334.out | refine below_set ?_ GE345.out | refine below_set ?_ GE346.out) | exact HB.out)) hb); clear BK332; clear BK333; clear BK334; clear BK345; clear BK346; clear HB; have BK332 := n0_; have BK333 := n1_; have BK334 := n2_; have BK345 := n3_; have BK346 := n4_; have HB := n5_; clear n0_ n1_ n2_ n3_ n4_ n5_; (try clear hb); (try clear hb2); (try clear hk); (try clear hi)) | ((with_reducible refine gate_dst (N := 152) rfl ?_); (try (refine gate_guard (by rfl) ?_; dsimp only)); refine Kd.R_lit (Kd.int .i64) _ 3 ?hg (N := 152) ?hd (xs := ([0, 2, 1, 3, 4] : List Int)) (inner := [.int .i64 0, .int .i64 2, .int .i64 1, .int .i64 3, .int .i64 4]) (ok := fun _ => True) (okp := fun _ => True) ?hr ?hp (fun _ hk => hk) trivial (Below.refl _ _) (Nat.le_refl _) (by simp) ?_; (case hd => rfl); (case hg => rfl); (case hr => first | (go_simp; done) | (go_simp; rfl)); (case hp => exact (Reps.one (show Kd.M (Kd.int .i64) _ _ _ 0 [.int .i64 0] from rfl) (Reps.one (show Kd.M (Kd.int .i64) _ _ _ 2 [.int .i64 2] from rfl) (Reps.one (show Kd.M (Kd.int .i64) _ _ _ 1 [.int .i64 1] from rfl) (Reps.one (show Kd.M (Kd.int .i64) _ _ _ 3 [.int .i64 3] from rfl) (Reps.one (show Kd.M (Kd.int .i64) _ _ _ 4 [.int .i64 4] from rfl) (Reps.none _ _))))))); intro v375 w167 ho168 hb hg_ hnew_; clear hg_ hnew_; (first | rw [← Ny374.out] at ho168 | (simp only [Int.reduceToNat] at ho168; rw [← Ny374.out] at ho168)); have n0_ := Aside0.mk (Kd.R_lower ho168 (below_size (by repeat (first | (with_reducible first | exact HB.out | apply below_alloc | apply pw_below_drewN | apply below_drew1 | refine below_set ?_ GE332.out | refine below_set ?_ GE333.out | refine below_set ?_ GE334.out | refine below_set ?_ GE345.out | refine below_set ?_ GE346.out) | exact HB.out)))); have n1_ := bb hb BK332.out; have n2_ := bb hb BK333.out; have n3_ := bb hb BK334.out; have n4_ := bb hb BK345.out; have n5_ := bb hb BK346.out; have n6_ := Aside0.mk (below_step (by repeat (first | (with_reducible first | exact HB.out | apply below_alloc | apply pw_below_drewN | apply below_drew1 | refine below_set ?_ GE332.out | refine below_set ?_ GE333.out | refine below_set ?_ GE334.out | refine below_set ?_ GE345.out | refine below_set ?_ GE346.out) | exact HB.out)) hb); clear BK332; clear BK333; clear BK334; clear BK345; clear BK346; clear HB; have HO376 := n0_; have BK332 := n1_; have BK333 := n2_; have BK334 := n3_; have BK345 := n4_; have BK346 := n5_; have HB := n6_; clear n0_ n1_ n2_ n3_ n4_ n5_ n6_; clear hb ho168; obtain ⟨Ao169, co169, eo169⟩ := Kd.R_slice HO376.out; subst eo169; have p377 : 0 ≤ (t364 : Int) := of_decide_eq_true (by first | (with_reducible assumption) | assumption); have q377 : t364 < (y374.length : Int) := of_decide_eq_true (by first | (with_reducible assumption) | assumption); obtain ⟨ad377, e377, hx377_0⟩ := Kd.at_int (Kd.R_reads' HO376.out).2.2 t364 p377 q377; cases e377; replace p377 := eq_true p377; replace q377 := eq_true q377))
                        replace HO376 := Aside0.mk (Kd.R_drew HO376.out)
                        replace BK332 := Aside0.mk (blk_drew BK332.out)
                        replace BK333 := Aside0.mk (blk_drew BK333.out)
                        replace BK334 := Aside0.mk (blk_drew BK334.out)
                        replace BK345 := Aside0.mk (blk_drew BK345.out)
                        replace BK346 := Aside0.mk (blk_drew BK346.out)
                        replace HB := Aside0.mk (below_drew1 HB.out)
                        refine start_ (n := 25) (S := fun w' => w'.cell? ⟨gb332, 0, none⟩ = some (.bool false) ∧ w'.cell? ⟨gb332, 1, none⟩ = some (.int .i64 a0_1) ∧ w'.cell? ⟨gb332, 2, none⟩ = some (.int .i64 a0_2) ∧ w'.cell? ⟨gb332, 3, none⟩ = some (.int .i64 a0_3) ∧ w'.cell? ⟨gb332, 4, none⟩ = some (.int .i64 a0_4) ∧ w'.cell? ⟨gb332, 5, none⟩ = some (.int .i64 a0_5) ∧ w'.cell? ⟨gb332, 6, none⟩ = some (.int .i64 a0_6)) (ds := []) fl92 (by kernel_rfl) rfl rfl ⟨(blk_cell BK332.out 0).trans rfl, (blk_cell BK332.out 1).trans rfl, (blk_cell BK332.out 2).trans rfl, (blk_cell BK332.out 3).trans rfl, (blk_cell BK332.out 4).trans rfl, (blk_cell BK332.out 5).trans rfl, (blk_cell BK332.out 6).trans rfl⟩ (fun hHeld => ?_); refine with_tabW tripartitelaw06_ChunkClasses.tab20 tripartitelaw06_ChunkClasses.bits20 (fun HT_ HW_ => ?_)
                        generalize w167.drew = w170 at HO376 BK332 BK333 BK334 BK345 BK346 HB hHeld ⊢
                        refine pu 0 (some 156) fl93 rfl rfl HT_.out (fun _ _ _ h => h) (h := ?_)
                        refine tk 1 (some 157) fl94 rfl rfl HT_.out HW_.out (fun _ _ _ h => h) hHeld (hy := by rintro w' ⟨s0, s1, s2, s3, s4, s5, s6⟩; go_simp; with_reducible rfl) (h := ?_)
                        refine pu 2 (some 158) fl95 rfl rfl HT_.out (fun _ _ _ h => h) (h := ?_)
                        refine pu 3 (some 159) fl96 rfl rfl HT_.out (fun _ _ _ h => h) (h := ?_)
                        refine pu 4 (some 160) fl97 rfl rfl HT_.out (fun _ _ _ h => h) (h := ?_)
                        refine pu 6 (some 162) fl118 rfl rfl HT_.out (fun _ _ _ h => h) (h := ?_)
                        refine pu 8 (some 164) fl119 rfl rfl HT_.out (fun _ _ _ h => h) (h := ?_)
                        refine pu 10 (some 166) fl120 rfl rfl HT_.out (fun _ _ _ h => h) (h := ?_)
                        refine tk 5 (some 161) fl121 rfl rfl HT_.out HW_.out (fun _ _ _ h => h) hHeld (hy := by rintro w' ⟨s0, s1, s2, s3, s4, s5, s6⟩; go_simp; with_reducible rfl) (h := ?_)
                        refine tk 9 (some 165) fl122 rfl rfl HT_.out HW_.out (fun _ _ _ h => h) hHeld (hy := by rintro w' ⟨s0, s1, s2, s3, s4, s5, s6⟩; go_simp; with_reducible rfl) (h := ?_)
                        refine one_ (i := 7) (N := some 163) fl103 rfl rfl (one_of HT_.out (by kernel_rfl)) (by decide) (fun K hK => ?_)
                        refine goes_ Try.func18 (by kernel_rfl) rfl #[.agg #[.int .i64 a0_1, .int .i64 a0_2], .slice A1_0 (l1_0.take ((ji4) : Int).toNat).length c1_0] (by rfl) rfl rfl (by (try simp only [List.map_toArray, List.map_cons, List.map_nil]); first | done | (rw [TLji4.out] <;> rfl) | (simp only [hji4]; rfl) | rfl | (simp only [List.length_drop, List.length_take]; rfl)) ?_
                        with_reducible refine (tripartiteref06_Cut.calls a0_1 a0_2 _ _ (l1_0.take ((ji4) : Int).toNat) t378 _ ?side1 ?side2 A149.out).mono ?_
                        (case side1 => repeat (first | exact (Kd.C_below HR335.out HB.out) | (with_reducible refine Kd.C_alloc ?_ _) | (with_reducible refine Kd.C_drewN ?_ _) | (with_reducible refine Kd.C_drew ?_)))
                        (case side2 => exact HC335.out)
                        rintro e w171 ⟨v379, rfl, ho0, hb⟩
                        refine ⟨_, rfl, ?_⟩
                        replace HO376 := Aside0.mk (Kd.R_below (by (with_reducible repeat (first | apply Kd.R_alloc | apply Kd.R_drewN | apply Kd.R_drew)); exact HO376.out) hb)
                        have HO380 := Aside0.mk ho0
                        replace BK332 := bb hb BK332.out
                        replace BK333 := bb hb BK333.out
                        replace BK334 := bb hb BK334.out
                        replace BK345 := bb hb BK345.out
                        replace BK346 := bb hb BK346.out
                        replace HB := Aside0.mk (below_step (by repeat (first | (with_reducible first | exact HB.out | apply below_alloc | apply pw_below_drewN | apply below_drew1) | exact HB.out)) hb)
                        refine hK.out _ _ ⟨(blk_cell BK332.out 0).trans rfl, (blk_cell BK332.out 1).trans rfl, (blk_cell BK332.out 2).trans rfl, (blk_cell BK332.out 3).trans rfl, (blk_cell BK332.out 4).trans rfl, (blk_cell BK332.out 5).trans rfl, (blk_cell BK332.out 6).trans rfl⟩ (fun hHeld => ?_)
                        clear hK K
                        refine nm (h := ?_)
                        refine one_ (i := 11) (N := some 167) fl104 rfl rfl (one_of HT_.out (by kernel_rfl)) (by decide) (fun K hK => ?_)
                        refine goes_ Try.func18 (by kernel_rfl) rfl #[.agg #[.int .i64 a0_3, .int .i64 a0_4], .slice A1_1 (l1_1.take ((ji7) : Int).toNat).length c1_1] (by rfl) rfl rfl (by (try simp only [List.map_toArray, List.map_cons, List.map_nil]); first | done | (rw [TLji7.out] <;> rfl) | (simp only [hji7]; rfl) | rfl | (simp only [List.length_drop, List.length_take]; rfl)) ?_
                        with_reducible refine (tripartiteref06_Cut.calls a0_3 a0_4 _ _ (l1_1.take ((ji7) : Int).toNat) t381 _ ?side1 ?side2 A150.out).mono ?_
                        (case side1 => repeat (first | exact (Kd.C_below HR336.out HB.out) | (with_reducible refine Kd.C_alloc ?_ _) | (with_reducible refine Kd.C_drewN ?_ _) | (with_reducible refine Kd.C_drew ?_)))
                        (case side2 => exact HC336.out)
                        rintro e w172 ⟨v382, rfl, ho0, hb⟩
                        refine ⟨_, rfl, ?_⟩
                        replace HO376 := Aside0.mk (Kd.R_below (by (with_reducible repeat (first | apply Kd.R_alloc | apply Kd.R_drewN | apply Kd.R_drew)); exact HO376.out) hb)
                        replace HO380 := Aside0.mk (Rd.below (by (with_reducible repeat (first | apply Rd.alloc | apply Rd.drewN | apply Rd.drew)); exact HO380.out) hb rfl)
                        have HO383 := Aside0.mk ho0
                        replace BK332 := bb hb BK332.out
                        replace BK333 := bb hb BK333.out
                        replace BK334 := bb hb BK334.out
                        replace BK345 := bb hb BK345.out
                        replace BK346 := bb hb BK346.out
                        replace HB := Aside0.mk (below_step (by repeat (first | (with_reducible first | exact HB.out | apply below_alloc | apply pw_below_drewN | apply below_drew1) | exact HB.out)) hb)
                        obtain ⟨Ao173, co173, eo173⟩ := Rd.slice HO380.out
                        (first | subst eo173 | (injection eo173 with f1_ f2_ f3_; have f4_ := f1_.symm; have f5_ := f3_.symm; clear f1_ f2_ f3_; subst f4_; subst f5_))
                        obtain ⟨Ao174, co174, eo174⟩ := Rd.slice HO383.out
                        (first | subst eo174 | (injection eo174 with f1_ f2_ f3_; have f4_ := f1_.symm; have f5_ := f3_.symm; clear f1_ f2_ f3_; subst f4_; subst f5_))
                        refine hK.out _ _ ⟨(blk_cell BK332.out 0).trans rfl, (blk_cell BK332.out 1).trans rfl, (blk_cell BK332.out 2).trans rfl, (blk_cell BK332.out 3).trans rfl, (blk_cell BK332.out 4).trans rfl, (blk_cell BK332.out 5).trans rfl, (blk_cell BK332.out 6).trans rfl⟩ (fun hHeld => ?_)
                        clear hK K
                        refine nm (h := ?_)
                        refine one_ (i := 12) (N := some 168) fl105 rfl rfl (one_of HT_.out (by kernel_rfl)) (by decide) (fun K hK => ?_)
                        refine goes_ Try.func16 (by kernel_rfl) rfl #[.slice Ao173 t378.length co173, .slice Ao174 t381.length co174] (by rfl) rfl rfl (by (try simp only [List.map_toArray, List.map_cons, List.map_nil]); first | done | rfl | (simp only [List.length_drop, List.length_take]; rfl)) ?_
                        with_reducible refine (tripartiteref01_Same.calls kj107 _ _ t378 _ _ t381 true _ ?side1 ?side2 ?side3 ?side4 A151.out).mono ?_
                        (case side1 => repeat (first | exact (Rd.reads HO380.out).2 | (with_reducible refine Kd.C_alloc ?_ _) | (with_reducible refine Kd.C_drewN ?_ _) | (with_reducible refine Kd.C_drew ?_)))
                        (case side2 => exact (Rd.reads HO380.out).1)
                        (case side3 => repeat (first | exact (Rd.reads HO383.out).2 | (with_reducible refine Kd.C_alloc ?_ _) | (with_reducible refine Kd.C_drewN ?_ _) | (with_reducible refine Kd.C_drew ?_)))
                        (case side4 => exact (Rd.reads HO383.out).1)
                        rintro e w' ⟨rfl, ⟨nd, rfl⟩⟩
                        refine ⟨_, rfl, ?_⟩
                        refine hK.out _ _ ⟨(blk_cell BK332.out 0).trans rfl, (blk_cell BK332.out 1).trans rfl, (blk_cell BK332.out 2).trans rfl, (blk_cell BK332.out 3).trans rfl, (blk_cell BK332.out 4).trans rfl, (blk_cell BK332.out 5).trans rfl, (blk_cell BK332.out 6).trans rfl⟩ (fun hHeld => ?_)
                        clear hK K
                        refine nm (h := ?_)
                        refine pu 13 (some 169) fl106 rfl rfl HT_.out (fun _ _ _ h => h) (h := ?_)
                        refine pu 14 (some 170) fl107 rfl rfl HT_.out (fun _ _ _ h => h) (h := ?_)
                        refine pu 15 (some 171) fl108 rfl rfl HT_.out (fun _ _ _ h => h) (h := ?_)
                        refine pu 17 (some 173) fl123 rfl rfl HT_.out (fun _ _ _ h => h) (h := ?_)
                        refine pu 19 (some 175) fl124 rfl rfl HT_.out (fun _ _ _ h => h) (h := ?_)
                        refine pu 21 (some 177) fl125 rfl rfl HT_.out (fun _ _ _ h => h) (h := ?_)
                        refine tk 16 (some 172) fl126 rfl rfl HT_.out HW_.out (fun _ _ _ h => h) hHeld (hy := by rintro w' ⟨s0, s1, s2, s3, s4, s5, s6⟩; go_simp; with_reducible rfl) (h := ?_)
                        refine tk 20 (some 176) fl127 rfl rfl HT_.out HW_.out (fun _ _ _ h => h) hHeld (hy := by rintro w' ⟨s0, s1, s2, s3, s4, s5, s6⟩; go_simp; with_reducible rfl) (h := ?_)
                        refine one_ (i := 18) (N := some 174) fl114 rfl rfl (one_of HT_.out (by kernel_rfl)) (by decide) (fun K hK => ?_)
                        refine goes_ Try.func18 (by kernel_rfl) rfl #[.agg #[.int .i64 a0_1, .int .i64 a0_2], .slice A1_0 (l1_0.take ((ji4) : Int).toNat).length c1_0] (by rfl) rfl rfl (by (try simp only [List.map_toArray, List.map_cons, List.map_nil]); first | done | (rw [TLji4.out] <;> rfl) | (simp only [hji4]; rfl) | rfl | (simp only [List.length_drop, List.length_take]; rfl)) ?_
                        with_reducible refine (tripartiteref06_Cut.calls a0_1 a0_2 _ _ (l1_0.take ((ji4) : Int).toNat) t385 _ ?side1 ?side2 A153.out).mono ?_
                        (case side1 => repeat (first | exact (Kd.C_below HR335.out (by repeat (first | (with_reducible first | exact HB.out | apply below_alloc | apply pw_below_drewN | apply below_drew1 | refine below_set ?_ GE332.out | refine below_set ?_ GE333.out | refine below_set ?_ GE334.out | refine below_set ?_ GE345.out | refine below_set ?_ GE346.out) | exact HB.out))) | (with_reducible refine Kd.C_alloc ?_ _) | (with_reducible refine Kd.C_drewN ?_ _) | (with_reducible refine Kd.C_drew ?_)))
                        (case side2 => exact HC335.out)
                        rintro e w175 ⟨v386, rfl, ho0, hb⟩
                        refine ⟨_, rfl, ?_⟩
                        replace HO376 := Aside0.mk (Kd.R_below (by (with_reducible repeat (first | apply Kd.R_alloc | apply Kd.R_drewN | apply Kd.R_drew)); exact HO376.out) hb)
                        replace HO380 := Aside0.mk (Rd.below (by (with_reducible repeat (first | apply Rd.alloc | apply Rd.drewN | apply Rd.drew)); exact HO380.out) hb rfl)
                        replace HO383 := Aside0.mk (Rd.below (by (with_reducible repeat (first | apply Rd.alloc | apply Rd.drewN | apply Rd.drew)); exact HO383.out) hb rfl)
                        have HO387 := Aside0.mk ho0
                        replace BK332 := bb hb BK332.out
                        replace BK333 := bb hb BK333.out
                        replace BK334 := bb hb BK334.out
                        replace BK345 := bb hb BK345.out
                        replace BK346 := bb hb BK346.out
                        replace HB := Aside0.mk (below_step (by repeat (first | (with_reducible first | exact HB.out | apply below_alloc | apply pw_below_drewN | apply below_drew1) | exact HB.out)) hb)
                        refine hK.out _ _ ⟨(blk_cell BK332.out 0).trans rfl, (blk_cell BK332.out 1).trans rfl, (blk_cell BK332.out 2).trans rfl, (blk_cell BK332.out 3).trans rfl, (blk_cell BK332.out 4).trans rfl, (blk_cell BK332.out 5).trans rfl, (blk_cell BK332.out 6).trans rfl⟩ (fun hHeld => ?_)
                        clear hK K
                        refine nm (h := ?_)
                        refine one_ (i := 22) (N := some 178) fl115 rfl rfl (one_of HT_.out (by kernel_rfl)) (by decide) (fun K hK => ?_)
                        refine goes_ Try.func18 (by kernel_rfl) rfl #[.agg #[.int .i64 a0_5, .int .i64 a0_6], .slice A1_2 (l1_2.take ((ji10) : Int).toNat).length c1_2] (by rfl) rfl rfl (by (try simp only [List.map_toArray, List.map_cons, List.map_nil]); first | done | (rw [TLji10.out] <;> rfl) | (simp only [hji10]; rfl) | rfl | (simp only [List.length_drop, List.length_take]; rfl)) ?_
                        with_reducible refine (tripartiteref06_Cut.calls a0_5 a0_6 _ _ (l1_2.take ((ji10) : Int).toNat) t388 _ ?side1 ?side2 A154.out).mono ?_
                        (case side1 => repeat (first | exact (Kd.C_below HR337.out HB.out) | (with_reducible refine Kd.C_alloc ?_ _) | (with_reducible refine Kd.C_drewN ?_ _) | (with_reducible refine Kd.C_drew ?_)))
                        (case side2 => exact HC337.out)
                        rintro e w176 ⟨v389, rfl, ho0, hb⟩
                        refine ⟨_, rfl, ?_⟩
                        replace HO376 := Aside0.mk (Kd.R_below (by (with_reducible repeat (first | apply Kd.R_alloc | apply Kd.R_drewN | apply Kd.R_drew)); exact HO376.out) hb)
                        replace HO380 := Aside0.mk (Rd.below (by (with_reducible repeat (first | apply Rd.alloc | apply Rd.drewN | apply Rd.drew)); exact HO380.out) hb rfl)
                        replace HO383 := Aside0.mk (Rd.below (by (with_reducible repeat (first | apply Rd.alloc | apply Rd.drewN | apply Rd.drew)); exact HO383.out) hb rfl)
                        replace HO387 := Aside0.mk (Rd.below (by (with_reducible repeat (first | apply Rd.alloc | apply Rd.drewN | apply Rd.drew)); exact HO387.out) hb rfl)
                        have HO390 := Aside0.mk ho0
                        replace BK332 := bb hb BK332.out
                        replace BK333 := bb hb BK333.out
                        replace BK334 := bb hb BK334.out
                        replace BK345 := bb hb BK345.out
                        replace BK346 := bb hb BK346.out
                        replace HB := Aside0.mk (below_step (by repeat (first | (with_reducible first | exact HB.out | apply below_alloc | apply pw_below_drewN | apply below_drew1) | exact HB.out)) hb)
                        obtain ⟨Ao177, co177, eo177⟩ := Rd.slice HO387.out
                        (first | subst eo177 | (injection eo177 with f1_ f2_ f3_; have f4_ := f1_.symm; have f5_ := f3_.symm; clear f1_ f2_ f3_; subst f4_; subst f5_))
                        obtain ⟨Ao178, co178, eo178⟩ := Rd.slice HO390.out
                        (first | subst eo178 | (injection eo178 with f1_ f2_ f3_; have f4_ := f1_.symm; have f5_ := f3_.symm; clear f1_ f2_ f3_; subst f4_; subst f5_))
                        refine hK.out _ _ ⟨(blk_cell BK332.out 0).trans rfl, (blk_cell BK332.out 1).trans rfl, (blk_cell BK332.out 2).trans rfl, (blk_cell BK332.out 3).trans rfl, (blk_cell BK332.out 4).trans rfl, (blk_cell BK332.out 5).trans rfl, (blk_cell BK332.out 6).trans rfl⟩ (fun hHeld => ?_)
                        clear hK K
                        refine nm (h := ?_)
                        refine one_ (i := 23) (N := some 179) fl116 rfl rfl (one_of HT_.out (by kernel_rfl)) (by decide) (fun K hK => ?_)
                        refine goes_ Try.func16 (by kernel_rfl) rfl #[.slice Ao177 t385.length co177, .slice Ao178 t388.length co178] (by rfl) rfl rfl (by (try simp only [List.map_toArray, List.map_cons, List.map_nil]); first | done | rfl | (simp only [List.length_drop, List.length_take]; rfl)) ?_
                        with_reducible refine (tripartiteref01_Same.calls kj107 _ _ t385 _ _ t388 true _ ?side1 ?side2 ?side3 ?side4 A155.out).mono ?_
                        (case side1 => repeat (first | exact (Rd.reads HO387.out).2 | (with_reducible refine Kd.C_alloc ?_ _) | (with_reducible refine Kd.C_drewN ?_ _) | (with_reducible refine Kd.C_drew ?_)))
                        (case side2 => exact (Rd.reads HO387.out).1)
                        (case side3 => repeat (first | exact (Rd.reads HO390.out).2 | (with_reducible refine Kd.C_alloc ?_ _) | (with_reducible refine Kd.C_drewN ?_ _) | (with_reducible refine Kd.C_drew ?_)))
                        (case side4 => exact (Rd.reads HO390.out).1)
                        rintro e w' ⟨rfl, ⟨nd, rfl⟩⟩
                        refine ⟨_, rfl, ?_⟩
                        refine hK.out _ _ ⟨(blk_cell BK332.out 0).trans rfl, (blk_cell BK332.out 1).trans rfl, (blk_cell BK332.out 2).trans rfl, (blk_cell BK332.out 3).trans rfl, (blk_cell BK332.out 4).trans rfl, (blk_cell BK332.out 5).trans rfl, (blk_cell BK332.out 6).trans rfl⟩ (fun hHeld => ?_)
                        clear hK K
                        refine nm (h := ?_)
                        refine pu 24 (some 180) fl117 rfl rfl HT_.out (fun _ _ _ h => h) (h := ?_)
                        refine done_ (done_of HT_.out (by kernel_rfl)) ?_
                        try go_wp2
                        go_ret
                        exact ⟨by first | rfl | (simp [errW_none, errW_some] <;> rfl) | (simp only [← hji4, ← hji7, ← hji10]; first | rfl | (simp [errW_none, errW_some] <;> rfl)) | (simp [*, errW_none, errW_some] <;> rfl), by repeat (first | (with_reducible first | exact HB.out | apply below_alloc | apply pw_below_drewN | apply below_drew1 | refine below_set ?_ GE332.out | refine below_set ?_ GE333.out | refine below_set ?_ GE334.out | refine below_set ?_ GE345.out | refine below_set ?_ GE346.out) | exact HB.out)⟩
                       ·replace c156 := Bool.eq_false_iff.mpr c156
                        subst c156
                        have H1 : (some (t372 == (rd y374 t364))) = some r := by rw [if_neg (show ¬ (false = true) by decide)] at H; exact H
                        clear H
                        have H := H1
                        clear H1
                        obtain rfl := Option.some.inj H
                        try go_wp2
                        replace BK332 := Aside0.mk (blk_drew BK332.out)
                        replace BK333 := Aside0.mk (blk_drew BK333.out)
                        replace BK334 := Aside0.mk (blk_drew BK334.out)
                        replace BK345 := Aside0.mk (blk_drew BK345.out)
                        replace BK346 := Aside0.mk (blk_drew BK346.out)
                        replace HB := Aside0.mk (below_drew1 HB.out)
                        refine start_ (n := 13) (S := fun w' => w'.cell? ⟨gb345, 0, none⟩ = some (.bool t338) ∧ w'.cell? ⟨gb345, 1, none⟩ = some (.int .i64 t339) ∧ w'.cell? ⟨gb345, 2, none⟩ = some (.int .i64 t340) ∧ w'.cell? ⟨gb345, 3, none⟩ = some (.int .i64 t341) ∧ w'.cell? ⟨gb345, 4, none⟩ = some (.int .i64 t342) ∧ w'.cell? ⟨gb345, 5, none⟩ = some (.int .i64 t343) ∧ w'.cell? ⟨gb345, 6, none⟩ = some (.int .i64 t344)) (ds := []) fl78 (by kernel_rfl) rfl rfl ⟨(blk_cell BK345.out 0).trans rfl, (blk_cell BK345.out 1).trans rfl, (blk_cell BK345.out 2).trans rfl, (blk_cell BK345.out 3).trans rfl, (blk_cell BK345.out 4).trans rfl, (blk_cell BK345.out 5).trans rfl, (blk_cell BK345.out 6).trans rfl⟩ (fun hHeld => ?_); refine with_tabW tripartitelaw06_ChunkClasses.tab16 tripartitelaw06_ChunkClasses.bits16 (fun HT_ HW_ => ?_)
                        generalize wc.drew = w179 at BK332 BK333 BK334 BK345 BK346 HB hHeld ⊢
                        refine pu 1 (some 135) fl79 rfl rfl HT_.out (fun _ _ _ h => h) (h := ?_)
                        refine pu 2 (some 136) fl80 rfl rfl HT_.out (fun _ _ _ h => h) (h := ?_)
                        refine pu 3 (some 137) fl81 rfl rfl HT_.out (fun _ _ _ h => h) (h := ?_)
                        refine pu 7 (some 141) fl82 rfl rfl HT_.out (fun _ _ _ h => h) (h := ?_)
                        refine pu 8 (some 142) fl83 rfl rfl HT_.out (fun _ _ _ h => h) (h := ?_)
                        refine pu 9 (some 143) fl84 rfl rfl HT_.out (fun _ _ _ h => h) (h := ?_)
                        refine tk 0 (some 134) fl85 rfl rfl HT_.out HW_.out (fun _ _ _ h => h) hHeld (hy := by rintro w' ⟨s0, s1, s2, s3, s4, s5, s6⟩; go_simp; with_reducible rfl) (h := ?_)
                        refine tk 5 (some 139) fl86 rfl rfl HT_.out HW_.out (fun _ _ _ h => h) hHeld (hy := by rintro w' ⟨s0, s1, s2, s3, s4, s5, s6⟩; go_simp; with_reducible rfl) (h := ?_)
                        refine one_ (i := 4) (N := some 138) fl87 rfl rfl (one_of HT_.out (by kernel_rfl)) (by decide) (fun K hK => ?_)
                        refine goes_ Try.func19 (by kernel_rfl) rfl #[.agg #[.bool t338, .int .i64 t339, .int .i64 t340, .int .i64 t341, .int .i64 t342, .int .i64 t343, .int .i64 t344], .slice A1_0 (l1_0.take ((ji4) : Int).toNat).length c1_0, .slice A1_1 (l1_1.take ((ji7) : Int).toNat).length c1_1, .slice A1_2 (l1_2.take ((ji10) : Int).toNat).length c1_2] (by rfl) rfl rfl (by (try simp only [List.map_toArray, List.map_cons, List.map_nil]); first | done | (rw [TLji4.out, TLji7.out, TLji10.out] <;> rfl) | (simp only [hji10, hji4, hji7]; rfl) | rfl | (simp only [List.length_drop, List.length_take]; rfl)) ?_
                        with_reducible refine (chunk_Chunk_Class.calls kj107 t338 t339 t340 t341 t342 t343 t344 _ _ (l1_0.take ((ji4) : Int).toNat) _ _ (l1_1.take ((ji7) : Int).toNat) _ _ (l1_2.take ((ji10) : Int).toNat) t364 _ ?side1 ?side2 ?side3 ?side4 ?side5 ?side6 A127.out).mono ?_
                        (case side1 => repeat (first | exact (Kd.C_below HR335.out HB.out) | (with_reducible refine Kd.C_alloc ?_ _) | (with_reducible refine Kd.C_drewN ?_ _) | (with_reducible refine Kd.C_drew ?_)))
                        (case side2 => exact HC335.out)
                        (case side3 => repeat (first | exact (Kd.C_below HR336.out HB.out) | (with_reducible refine Kd.C_alloc ?_ _) | (with_reducible refine Kd.C_drewN ?_ _) | (with_reducible refine Kd.C_drew ?_)))
                        (case side4 => exact HC336.out)
                        (case side5 => repeat (first | exact (Kd.C_below HR337.out HB.out) | (with_reducible refine Kd.C_alloc ?_ _) | (with_reducible refine Kd.C_drewN ?_ _) | (with_reducible refine Kd.C_drew ?_)))
                        (case side6 => exact HC337.out)
                        rintro e w180 ⟨rfl, hb⟩
                        refine ⟨_, rfl, ?_⟩
                        replace BK332 := bb hb BK332.out
                        replace BK333 := bb hb BK333.out
                        replace BK334 := bb hb BK334.out
                        replace BK345 := bb hb BK345.out
                        replace BK346 := bb hb BK346.out
                        replace HB := Aside0.mk (below_step (by repeat (first | (with_reducible first | exact HB.out | apply below_alloc | apply pw_below_drewN | apply below_drew1) | exact HB.out)) hb)
                        refine hK.out _ _ ⟨(blk_cell BK345.out 0).trans rfl, (blk_cell BK345.out 1).trans rfl, (blk_cell BK345.out 2).trans rfl, (blk_cell BK345.out 3).trans rfl, (blk_cell BK345.out 4).trans rfl, (blk_cell BK345.out 5).trans rfl, (blk_cell BK345.out 6).trans rfl⟩ (fun hHeld => ?_)
                        clear hK K
                        refine nm (h := ?_)
                        refine one_ (i := 6) (N := some 140) fl88 rfl rfl (one_of HT_.out (by kernel_rfl)) (by decide) (fun K hK => ?_)
                        refine goes_ Try.func13 (by kernel_rfl) rfl #[.agg #[.bool t338, .int .i64 t339, .int .i64 t340, .int .i64 t341, .int .i64 t342, .int .i64 t343, .int .i64 t344]] (by rfl) rfl rfl (by (try simp only [List.map_toArray, List.map_cons, List.map_nil]); first | done | rfl | (simp only [List.length_drop, List.length_take]; rfl)) ?_
                        with_reducible refine (chunk_Chunk_Turned.calls t338 t339 t340 t341 t342 t343 t344 t365 t366 t367 t368 t369 t370 t371 _ A128.out).mono ?_
                        rintro e w181 ⟨rfl, hb⟩
                        refine ⟨_, rfl, ?_⟩
                        replace BK332 := bb hb BK332.out
                        replace BK333 := bb hb BK333.out
                        replace BK334 := bb hb BK334.out
                        replace BK345 := bb hb BK345.out
                        replace BK346 := bb hb BK346.out
                        replace HB := Aside0.mk (below_step (by repeat (first | (with_reducible first | exact HB.out | apply below_alloc | apply pw_below_drewN | apply below_drew1) | exact HB.out)) hb)
                        refine hK.out _ _ ⟨(blk_cell BK345.out 0).trans rfl, (blk_cell BK345.out 1).trans rfl, (blk_cell BK345.out 2).trans rfl, (blk_cell BK345.out 3).trans rfl, (blk_cell BK345.out 4).trans rfl, (blk_cell BK345.out 5).trans rfl, (blk_cell BK345.out 6).trans rfl⟩ (fun hHeld => ?_)
                        clear hK K
                        refine nm (h := ?_)
                        refine one_ (i := 10) (N := some 144) fl89 rfl rfl (one_of HT_.out (by kernel_rfl)) (by decide) (fun K hK => ?_)
                        refine goes_ Try.func19 (by kernel_rfl) rfl #[.agg #[.bool t365, .int .i64 t366, .int .i64 t367, .int .i64 t368, .int .i64 t369, .int .i64 t370, .int .i64 t371], .slice A1_0 (l1_0.take ((ji4) : Int).toNat).length c1_0, .slice A1_2 (l1_2.take ((ji10) : Int).toNat).length c1_2, .slice A1_1 (l1_1.take ((ji7) : Int).toNat).length c1_1] (by rfl) rfl rfl (by (try simp only [List.map_toArray, List.map_cons, List.map_nil]); first | done | (rw [TLji4.out, TLji7.out, TLji10.out] <;> rfl) | (simp only [hji10, hji4, hji7]; rfl) | rfl | (simp only [List.length_drop, List.length_take]; rfl)) ?_
                        with_reducible refine (chunk_Chunk_Class.calls kj107 t365 t366 t367 t368 t369 t370 t371 _ _ (l1_0.take ((ji4) : Int).toNat) _ _ (l1_2.take ((ji10) : Int).toNat) _ _ (l1_1.take ((ji7) : Int).toNat) t372 _ ?side1 ?side2 ?side3 ?side4 ?side5 ?side6 A129.out).mono ?_
                        (case side1 => repeat (first | exact (Kd.C_below HR335.out HB.out) | (with_reducible refine Kd.C_alloc ?_ _) | (with_reducible refine Kd.C_drewN ?_ _) | (with_reducible refine Kd.C_drew ?_)))
                        (case side2 => exact HC335.out)
                        (case side3 => repeat (first | exact (Kd.C_below HR337.out HB.out) | (with_reducible refine Kd.C_alloc ?_ _) | (with_reducible refine Kd.C_drewN ?_ _) | (with_reducible refine Kd.C_drew ?_)))
                        (case side4 => exact HC337.out)
                        (case side5 => repeat (first | exact (Kd.C_below HR336.out HB.out) | (with_reducible refine Kd.C_alloc ?_ _) | (with_reducible refine Kd.C_drewN ?_ _) | (with_reducible refine Kd.C_drew ?_)))
                        (case side6 => exact HC336.out)
                        rintro e w182 ⟨rfl, hb⟩
                        refine ⟨_, rfl, ?_⟩
                        replace BK332 := bb hb BK332.out
                        replace BK333 := bb hb BK333.out
                        replace BK334 := bb hb BK334.out
                        replace BK345 := bb hb BK345.out
                        replace BK346 := bb hb BK346.out
                        replace HB := Aside0.mk (below_step (by repeat (first | (with_reducible first | exact HB.out | apply below_alloc | apply pw_below_drewN | apply below_drew1) | exact HB.out)) hb)
                        refine hK.out _ _ ⟨(blk_cell BK345.out 0).trans rfl, (blk_cell BK345.out 1).trans rfl, (blk_cell BK345.out 2).trans rfl, (blk_cell BK345.out 3).trans rfl, (blk_cell BK345.out 4).trans rfl, (blk_cell BK345.out 5).trans rfl, (blk_cell BK345.out 6).trans rfl⟩ (fun hHeld => ?_)
                        clear hK K
                        refine nm (h := ?_)
                        refine pu 11 (some 14) fl90 rfl rfl HT_.out (fun _ _ _ h => h) (h := ?_)
                        refine pu 12 (some 15) fl91 rfl rfl HT_.out (fun _ _ _ h => h) (h := ?_)
                        refine done_ (done_of HT_.out (by kernel_rfl)) ?_
                        have hnb183 := NB332_333.out
                        have hnc183 := NB333_332.out
                        have hnb184 := NB332_334.out
                        have hnc184 := NB334_332.out
                        have hnb185 := NB332_345.out
                        have hnc185 := NB345_332.out
                        have hnb186 := NB332_346.out
                        have hnc186 := NB346_332.out
                        have hcz187_0 : w182.cell? ⟨gb332, 0, none⟩ = some (.bool false) := (blk_cell BK332.out 0).trans rfl
                        have hcz187_1 : w182.cell? ⟨gb332, 1, none⟩ = some (.int .i64 a0_1) := (blk_cell BK332.out 1).trans rfl
                        have hcz187_2 : w182.cell? ⟨gb332, 2, none⟩ = some (.int .i64 a0_2) := (blk_cell BK332.out 2).trans rfl
                        have hcz187_3 : w182.cell? ⟨gb332, 3, none⟩ = some (.int .i64 a0_3) := (blk_cell BK332.out 3).trans rfl
                        have hcz187_4 : w182.cell? ⟨gb332, 4, none⟩ = some (.int .i64 a0_4) := (blk_cell BK332.out 4).trans rfl
                        have hcz187_5 : w182.cell? ⟨gb332, 5, none⟩ = some (.int .i64 a0_5) := (blk_cell BK332.out 5).trans rfl
                        have hcz187_6 : w182.cell? ⟨gb332, 6, none⟩ = some (.int .i64 a0_6) := (blk_cell BK332.out 6).trans rfl
                        have hfz187_0 := blk_frozen BK332.out 0
                        have hfz187_1 := blk_frozen BK332.out 1
                        have hfz187_2 := blk_frozen BK332.out 2
                        have hfz187_3 := blk_frozen BK332.out 3
                        have hfz187_4 := blk_frozen BK332.out 4
                        have hfz187_5 := blk_frozen BK332.out 5
                        have hfz187_6 := blk_frozen BK332.out 6
                        try go_wp2_with (first | ((with_reducible refine gate_callee (f := 20) rfl ?_); refine goesL_ (some 150) rfl rfl Try.func20 (by kernel_rfl) rfl #[.agg #[.bool false, .int .i64 a0_1, .int .i64 a0_2, .int .i64 a0_3, .int .i64 a0_4, .int .i64 a0_5, .int .i64 a0_6], .slice A1_0 (l1_0.take ((ji4) : Int).toNat).length c1_0, .slice A1_1 (l1_1.take ((ji7) : Int).toNat).length c1_1, .slice A1_2 (l1_2.take ((ji10) : Int).toNat).length c1_2] rfl (by (try simp only [List.map_toArray, List.map_cons, List.map_nil]); first | done | (rw [TLji4.out, TLji7.out, TLji10.out] <;> rfl) | (simp only [hji10, hji4, hji7]; rfl) | rfl | (simp only [List.length_drop, List.length_take]; rfl)) ?_; (with_reducible refine (tripartiteref06_Class.calls kj107 false a0_1 a0_2 a0_3 a0_4 a0_5 a0_6 _ _ (l1_0.take ((ji4) : Int).toNat) _ _ (l1_1.take ((ji7) : Int).toNat) _ _ (l1_2.take ((ji10) : Int).toNat) t373 _ ?side1 ?side2 ?side3 ?side4 ?side5 ?side6 A130.out).mono ?_); (case side1 => repeat (first | exact (Kd.C_below HR335.out HB.out) | (with_reducible refine Kd.C_alloc ?_ _) | (with_reducible refine Kd.C_drewN ?_ _) | (with_reducible refine Kd.C_drew ?_))); (case side2 => exact HC335.out); (case side3 => repeat (first | exact (Kd.C_below HR336.out HB.out) | (with_reducible refine Kd.C_alloc ?_ _) | (with_reducible refine Kd.C_drewN ?_ _) | (with_reducible refine Kd.C_drew ?_))); (case side4 => exact HC336.out); (case side5 => repeat (first | exact (Kd.C_below HR337.out HB.out) | (with_reducible refine Kd.C_alloc ?_ _) | (with_reducible refine Kd.C_drewN ?_ _) | (with_reducible refine Kd.C_drew ?_))); (case side6 => exact HC337.out); rintro e w188 ⟨rfl, hb⟩; refine ⟨_, rfl, ?_⟩; have n0_ := bb hb BK332.out; have n1_ := bb hb BK333.out; have n2_ := bb hb BK334.out; have n3_ := bb hb BK345.out; have n4_ := bb hb BK346.out; have n5_ := Aside0.mk (below_step (by repeat (first | (with_reducible first | exact HB.out | apply below_alloc | apply pw_below_drewN | apply below_drew1 | refine below_set ?_ GE332.out | refine below_set ?_ GE333.out | refine below_set ?_ GE334.out | refine below_set ?_ GE345.out | refine below_set ?_ GE346.out) | exact HB.out)) hb); clear BK332; clear BK333; clear BK334; clear BK345; clear BK346; clear HB; have BK332 := n0_; have BK333 := n1_; have BK334 := n2_; have BK345 := n3_; have BK346 := n4_; have HB := n5_; clear n0_ n1_ n2_ n3_ n4_ n5_; (try clear hb); (try clear hb2); (try clear hk); (try clear hi)) | ((with_reducible refine gate_dst (N := 152) rfl ?_); (try (refine gate_guard (by rfl) ?_; dsimp only)); refine Kd.R_lit (Kd.int .i64) _ 3 ?hg (N := 152) ?hd (xs := ([0, 2, 1, 3, 4] : List Int)) (inner := [.int .i64 0, .int .i64 2, .int .i64 1, .int .i64 3, .int .i64 4]) (ok := fun _ => True) (okp := fun _ => True) ?hr ?hp (fun _ hk => hk) trivial (Below.refl _ _) (Nat.le_refl _) (by simp) ?_; (case hd => rfl); (case hg => rfl); (case hr => first | (go_simp; done) | (go_simp; rfl)); (case hp => exact (Reps.one (show Kd.M (Kd.int .i64) _ _ _ 0 [.int .i64 0] from rfl) (Reps.one (show Kd.M (Kd.int .i64) _ _ _ 2 [.int .i64 2] from rfl) (Reps.one (show Kd.M (Kd.int .i64) _ _ _ 1 [.int .i64 1] from rfl) (Reps.one (show Kd.M (Kd.int .i64) _ _ _ 3 [.int .i64 3] from rfl) (Reps.one (show Kd.M (Kd.int .i64) _ _ _ 4 [.int .i64 4] from rfl) (Reps.none _ _))))))); intro v375 w189 ho190 hb hg_ hnew_; clear hg_ hnew_; (first | rw [← Ny374.out] at ho190 | (simp only [Int.reduceToNat] at ho190; rw [← Ny374.out] at ho190)); have n0_ := Aside0.mk (Kd.R_lower ho190 (below_size (by repeat (first | (with_reducible first | exact HB.out | apply below_alloc | apply pw_below_drewN | apply below_drew1 | refine below_set ?_ GE332.out | refine below_set ?_ GE333.out | refine below_set ?_ GE334.out | refine below_set ?_ GE345.out | refine below_set ?_ GE346.out) | exact HB.out)))); have n1_ := bb hb BK332.out; have n2_ := bb hb BK333.out; have n3_ := bb hb BK334.out; have n4_ := bb hb BK345.out; have n5_ := bb hb BK346.out; have n6_ := Aside0.mk (below_step (by repeat (first | (with_reducible first | exact HB.out | apply below_alloc | apply pw_below_drewN | apply below_drew1 | refine below_set ?_ GE332.out | refine below_set ?_ GE333.out | refine below_set ?_ GE334.out | refine below_set ?_ GE345.out | refine below_set ?_ GE346.out) | exact HB.out)) hb); clear BK332; clear BK333; clear BK334; clear BK345; clear BK346; clear HB; have HO376 := n0_; have BK332 := n1_; have BK333 := n2_; have BK334 := n3_; have BK345 := n4_; have BK346 := n5_; have HB := n6_; clear n0_ n1_ n2_ n3_ n4_ n5_ n6_; clear hb ho190; obtain ⟨Ao191, co191, eo191⟩ := Kd.R_slice HO376.out; subst eo191; have p377 : 0 ≤ (t364 : Int) := of_decide_eq_true (by first | (with_reducible assumption) | assumption); have q377 : t364 < (y374.length : Int) := of_decide_eq_true (by first | (with_reducible assumption) | assumption); obtain ⟨ad377, e377, hx377_0⟩ := Kd.at_int (Kd.R_reads' HO376.out).2.2 t364 p377 q377; cases e377; replace p377 := eq_true p377; replace q377 := eq_true q377))
                        replace HO376 := Aside0.mk (Kd.R_drew HO376.out)
                        replace BK332 := Aside0.mk (blk_drew BK332.out)
                        replace BK333 := Aside0.mk (blk_drew BK333.out)
                        replace BK334 := Aside0.mk (blk_drew BK334.out)
                        replace BK345 := Aside0.mk (blk_drew BK345.out)
                        replace BK346 := Aside0.mk (blk_drew BK346.out)
                        replace HB := Aside0.mk (below_drew1 HB.out)
                        refine start_ (n := 25) (S := fun w' => w'.cell? ⟨gb332, 0, none⟩ = some (.bool false) ∧ w'.cell? ⟨gb332, 1, none⟩ = some (.int .i64 a0_1) ∧ w'.cell? ⟨gb332, 2, none⟩ = some (.int .i64 a0_2) ∧ w'.cell? ⟨gb332, 3, none⟩ = some (.int .i64 a0_3) ∧ w'.cell? ⟨gb332, 4, none⟩ = some (.int .i64 a0_4) ∧ w'.cell? ⟨gb332, 5, none⟩ = some (.int .i64 a0_5) ∧ w'.cell? ⟨gb332, 6, none⟩ = some (.int .i64 a0_6)) (ds := []) fl92 (by kernel_rfl) rfl rfl ⟨(blk_cell BK332.out 0).trans rfl, (blk_cell BK332.out 1).trans rfl, (blk_cell BK332.out 2).trans rfl, (blk_cell BK332.out 3).trans rfl, (blk_cell BK332.out 4).trans rfl, (blk_cell BK332.out 5).trans rfl, (blk_cell BK332.out 6).trans rfl⟩ (fun hHeld => ?_); refine with_tabW tripartitelaw06_ChunkClasses.tab20 tripartitelaw06_ChunkClasses.bits20 (fun HT_ HW_ => ?_)
                        generalize w189.drew = w192 at HO376 BK332 BK333 BK334 BK345 BK346 HB hHeld ⊢
                        refine pu 0 (some 156) fl93 rfl rfl HT_.out (fun _ _ _ h => h) (h := ?_)
                        refine tk 1 (some 157) fl94 rfl rfl HT_.out HW_.out (fun _ _ _ h => h) hHeld (hy := by rintro w' ⟨s0, s1, s2, s3, s4, s5, s6⟩; go_simp; with_reducible rfl) (h := ?_)
                        refine pu 2 (some 158) fl95 rfl rfl HT_.out (fun _ _ _ h => h) (h := ?_)
                        refine pu 3 (some 159) fl96 rfl rfl HT_.out (fun _ _ _ h => h) (h := ?_)
                        refine pu 4 (some 160) fl97 rfl rfl HT_.out (fun _ _ _ h => h) (h := ?_)
                        refine pu 6 (some 162) fl118 rfl rfl HT_.out (fun _ _ _ h => h) (h := ?_)
                        refine pu 8 (some 164) fl119 rfl rfl HT_.out (fun _ _ _ h => h) (h := ?_)
                        refine pu 10 (some 166) fl120 rfl rfl HT_.out (fun _ _ _ h => h) (h := ?_)
                        refine tk 5 (some 161) fl121 rfl rfl HT_.out HW_.out (fun _ _ _ h => h) hHeld (hy := by rintro w' ⟨s0, s1, s2, s3, s4, s5, s6⟩; go_simp; with_reducible rfl) (h := ?_)
                        refine tk 9 (some 165) fl122 rfl rfl HT_.out HW_.out (fun _ _ _ h => h) hHeld (hy := by rintro w' ⟨s0, s1, s2, s3, s4, s5, s6⟩; go_simp; with_reducible rfl) (h := ?_)
                        refine one_ (i := 7) (N := some 163) fl103 rfl rfl (one_of HT_.out (by kernel_rfl)) (by decide) (fun K hK => ?_)
                        refine goes_ Try.func18 (by kernel_rfl) rfl #[.agg #[.int .i64 a0_1, .int .i64 a0_2], .slice A1_0 (l1_0.take ((ji4) : Int).toNat).length c1_0] (by rfl) rfl rfl (by (try simp only [List.map_toArray, List.map_cons, List.map_nil]); first | done | (rw [TLji4.out] <;> rfl) | (simp only [hji4]; rfl) | rfl | (simp only [List.length_drop, List.length_take]; rfl)) ?_
                        with_reducible refine (tripartiteref06_Cut.calls a0_1 a0_2 _ _ (l1_0.take ((ji4) : Int).toNat) t378 _ ?side1 ?side2 A149.out).mono ?_
                        (case side1 => repeat (first | exact (Kd.C_below HR335.out HB.out) | (with_reducible refine Kd.C_alloc ?_ _) | (with_reducible refine Kd.C_drewN ?_ _) | (with_reducible refine Kd.C_drew ?_)))
                        (case side2 => exact HC335.out)
                        rintro e w193 ⟨v379, rfl, ho0, hb⟩
                        refine ⟨_, rfl, ?_⟩
                        replace HO376 := Aside0.mk (Kd.R_below (by (with_reducible repeat (first | apply Kd.R_alloc | apply Kd.R_drewN | apply Kd.R_drew)); exact HO376.out) hb)
                        have HO380 := Aside0.mk ho0
                        replace BK332 := bb hb BK332.out
                        replace BK333 := bb hb BK333.out
                        replace BK334 := bb hb BK334.out
                        replace BK345 := bb hb BK345.out
                        replace BK346 := bb hb BK346.out
                        replace HB := Aside0.mk (below_step (by repeat (first | (with_reducible first | exact HB.out | apply below_alloc | apply pw_below_drewN | apply below_drew1) | exact HB.out)) hb)
                        refine hK.out _ _ ⟨(blk_cell BK332.out 0).trans rfl, (blk_cell BK332.out 1).trans rfl, (blk_cell BK332.out 2).trans rfl, (blk_cell BK332.out 3).trans rfl, (blk_cell BK332.out 4).trans rfl, (blk_cell BK332.out 5).trans rfl, (blk_cell BK332.out 6).trans rfl⟩ (fun hHeld => ?_)
                        clear hK K
                        refine nm (h := ?_)
                        refine one_ (i := 11) (N := some 167) fl104 rfl rfl (one_of HT_.out (by kernel_rfl)) (by decide) (fun K hK => ?_)
                        refine goes_ Try.func18 (by kernel_rfl) rfl #[.agg #[.int .i64 a0_3, .int .i64 a0_4], .slice A1_1 (l1_1.take ((ji7) : Int).toNat).length c1_1] (by rfl) rfl rfl (by (try simp only [List.map_toArray, List.map_cons, List.map_nil]); first | done | (rw [TLji7.out] <;> rfl) | (simp only [hji7]; rfl) | rfl | (simp only [List.length_drop, List.length_take]; rfl)) ?_
                        with_reducible refine (tripartiteref06_Cut.calls a0_3 a0_4 _ _ (l1_1.take ((ji7) : Int).toNat) t381 _ ?side1 ?side2 A150.out).mono ?_
                        (case side1 => repeat (first | exact (Kd.C_below HR336.out HB.out) | (with_reducible refine Kd.C_alloc ?_ _) | (with_reducible refine Kd.C_drewN ?_ _) | (with_reducible refine Kd.C_drew ?_)))
                        (case side2 => exact HC336.out)
                        rintro e w194 ⟨v382, rfl, ho0, hb⟩
                        refine ⟨_, rfl, ?_⟩
                        replace HO376 := Aside0.mk (Kd.R_below (by (with_reducible repeat (first | apply Kd.R_alloc | apply Kd.R_drewN | apply Kd.R_drew)); exact HO376.out) hb)
                        replace HO380 := Aside0.mk (Rd.below (by (with_reducible repeat (first | apply Rd.alloc | apply Rd.drewN | apply Rd.drew)); exact HO380.out) hb rfl)
                        have HO383 := Aside0.mk ho0
                        replace BK332 := bb hb BK332.out
                        replace BK333 := bb hb BK333.out
                        replace BK334 := bb hb BK334.out
                        replace BK345 := bb hb BK345.out
                        replace BK346 := bb hb BK346.out
                        replace HB := Aside0.mk (below_step (by repeat (first | (with_reducible first | exact HB.out | apply below_alloc | apply pw_below_drewN | apply below_drew1) | exact HB.out)) hb)
                        obtain ⟨Ao195, co195, eo195⟩ := Rd.slice HO380.out
                        (first | subst eo195 | (injection eo195 with f1_ f2_ f3_; have f4_ := f1_.symm; have f5_ := f3_.symm; clear f1_ f2_ f3_; subst f4_; subst f5_))
                        obtain ⟨Ao196, co196, eo196⟩ := Rd.slice HO383.out
                        (first | subst eo196 | (injection eo196 with f1_ f2_ f3_; have f4_ := f1_.symm; have f5_ := f3_.symm; clear f1_ f2_ f3_; subst f4_; subst f5_))
                        refine hK.out _ _ ⟨(blk_cell BK332.out 0).trans rfl, (blk_cell BK332.out 1).trans rfl, (blk_cell BK332.out 2).trans rfl, (blk_cell BK332.out 3).trans rfl, (blk_cell BK332.out 4).trans rfl, (blk_cell BK332.out 5).trans rfl, (blk_cell BK332.out 6).trans rfl⟩ (fun hHeld => ?_)
                        clear hK K
                        refine nm (h := ?_)
                        refine one_ (i := 12) (N := some 168) fl105 rfl rfl (one_of HT_.out (by kernel_rfl)) (by decide) (fun K hK => ?_)
                        refine goes_ Try.func16 (by kernel_rfl) rfl #[.slice Ao195 t378.length co195, .slice Ao196 t381.length co196] (by rfl) rfl rfl (by (try simp only [List.map_toArray, List.map_cons, List.map_nil]); first | done | rfl | (simp only [List.length_drop, List.length_take]; rfl)) ?_
                        with_reducible refine (tripartiteref01_Same.calls kj107 _ _ t378 _ _ t381 true _ ?side1 ?side2 ?side3 ?side4 A151.out).mono ?_
                        (case side1 => repeat (first | exact (Rd.reads HO380.out).2 | (with_reducible refine Kd.C_alloc ?_ _) | (with_reducible refine Kd.C_drewN ?_ _) | (with_reducible refine Kd.C_drew ?_)))
                        (case side2 => exact (Rd.reads HO380.out).1)
                        (case side3 => repeat (first | exact (Rd.reads HO383.out).2 | (with_reducible refine Kd.C_alloc ?_ _) | (with_reducible refine Kd.C_drewN ?_ _) | (with_reducible refine Kd.C_drew ?_)))
                        (case side4 => exact (Rd.reads HO383.out).1)
                        rintro e w' ⟨rfl, ⟨nd, rfl⟩⟩
                        refine ⟨_, rfl, ?_⟩
                        refine hK.out _ _ ⟨(blk_cell BK332.out 0).trans rfl, (blk_cell BK332.out 1).trans rfl, (blk_cell BK332.out 2).trans rfl, (blk_cell BK332.out 3).trans rfl, (blk_cell BK332.out 4).trans rfl, (blk_cell BK332.out 5).trans rfl, (blk_cell BK332.out 6).trans rfl⟩ (fun hHeld => ?_)
                        clear hK K
                        refine nm (h := ?_)
                        refine pu 13 (some 169) fl106 rfl rfl HT_.out (fun _ _ _ h => h) (h := ?_)
                        refine pu 14 (some 170) fl107 rfl rfl HT_.out (fun _ _ _ h => h) (h := ?_)
                        refine pu 15 (some 171) fl108 rfl rfl HT_.out (fun _ _ _ h => h) (h := ?_)
                        refine pu 17 (some 173) fl123 rfl rfl HT_.out (fun _ _ _ h => h) (h := ?_)
                        refine pu 19 (some 175) fl124 rfl rfl HT_.out (fun _ _ _ h => h) (h := ?_)
                        refine pu 21 (some 177) fl125 rfl rfl HT_.out (fun _ _ _ h => h) (h := ?_)
                        refine tk 16 (some 172) fl126 rfl rfl HT_.out HW_.out (fun _ _ _ h => h) hHeld (hy := by rintro w' ⟨s0, s1, s2, s3, s4, s5, s6⟩; go_simp; with_reducible rfl) (h := ?_)
                        refine tk 20 (some 176) fl127 rfl rfl HT_.out HW_.out (fun _ _ _ h => h) hHeld (hy := by rintro w' ⟨s0, s1, s2, s3, s4, s5, s6⟩; go_simp; with_reducible rfl) (h := ?_)
                        refine one_ (i := 18) (N := some 174) fl114 rfl rfl (one_of HT_.out (by kernel_rfl)) (by decide) (fun K hK => ?_)
                        refine goes_ Try.func18 (by kernel_rfl) rfl #[.agg #[.int .i64 a0_1, .int .i64 a0_2], .slice A1_0 (l1_0.take ((ji4) : Int).toNat).length c1_0] (by rfl) rfl rfl (by (try simp only [List.map_toArray, List.map_cons, List.map_nil]); first | done | (rw [TLji4.out] <;> rfl) | (simp only [hji4]; rfl) | rfl | (simp only [List.length_drop, List.length_take]; rfl)) ?_
                        with_reducible refine (tripartiteref06_Cut.calls a0_1 a0_2 _ _ (l1_0.take ((ji4) : Int).toNat) t385 _ ?side1 ?side2 A153.out).mono ?_
                        (case side1 => repeat (first | exact (Kd.C_below HR335.out (by repeat (first | (with_reducible first | exact HB.out | apply below_alloc | apply pw_below_drewN | apply below_drew1 | refine below_set ?_ GE332.out | refine below_set ?_ GE333.out | refine below_set ?_ GE334.out | refine below_set ?_ GE345.out | refine below_set ?_ GE346.out) | exact HB.out))) | (with_reducible refine Kd.C_alloc ?_ _) | (with_reducible refine Kd.C_drewN ?_ _) | (with_reducible refine Kd.C_drew ?_)))
                        (case side2 => exact HC335.out)
                        rintro e w197 ⟨v386, rfl, ho0, hb⟩
                        refine ⟨_, rfl, ?_⟩
                        replace HO376 := Aside0.mk (Kd.R_below (by (with_reducible repeat (first | apply Kd.R_alloc | apply Kd.R_drewN | apply Kd.R_drew)); exact HO376.out) hb)
                        replace HO380 := Aside0.mk (Rd.below (by (with_reducible repeat (first | apply Rd.alloc | apply Rd.drewN | apply Rd.drew)); exact HO380.out) hb rfl)
                        replace HO383 := Aside0.mk (Rd.below (by (with_reducible repeat (first | apply Rd.alloc | apply Rd.drewN | apply Rd.drew)); exact HO383.out) hb rfl)
                        have HO387 := Aside0.mk ho0
                        replace BK332 := bb hb BK332.out
                        replace BK333 := bb hb BK333.out
                        replace BK334 := bb hb BK334.out
                        replace BK345 := bb hb BK345.out
                        replace BK346 := bb hb BK346.out
                        replace HB := Aside0.mk (below_step (by repeat (first | (with_reducible first | exact HB.out | apply below_alloc | apply pw_below_drewN | apply below_drew1) | exact HB.out)) hb)
                        refine hK.out _ _ ⟨(blk_cell BK332.out 0).trans rfl, (blk_cell BK332.out 1).trans rfl, (blk_cell BK332.out 2).trans rfl, (blk_cell BK332.out 3).trans rfl, (blk_cell BK332.out 4).trans rfl, (blk_cell BK332.out 5).trans rfl, (blk_cell BK332.out 6).trans rfl⟩ (fun hHeld => ?_)
                        clear hK K
                        refine nm (h := ?_)
                        refine one_ (i := 22) (N := some 178) fl115 rfl rfl (one_of HT_.out (by kernel_rfl)) (by decide) (fun K hK => ?_)
                        refine goes_ Try.func18 (by kernel_rfl) rfl #[.agg #[.int .i64 a0_5, .int .i64 a0_6], .slice A1_2 (l1_2.take ((ji10) : Int).toNat).length c1_2] (by rfl) rfl rfl (by (try simp only [List.map_toArray, List.map_cons, List.map_nil]); first | done | (rw [TLji10.out] <;> rfl) | (simp only [hji10]; rfl) | rfl | (simp only [List.length_drop, List.length_take]; rfl)) ?_
                        with_reducible refine (tripartiteref06_Cut.calls a0_5 a0_6 _ _ (l1_2.take ((ji10) : Int).toNat) t388 _ ?side1 ?side2 A154.out).mono ?_
                        (case side1 => repeat (first | exact (Kd.C_below HR337.out HB.out) | (with_reducible refine Kd.C_alloc ?_ _) | (with_reducible refine Kd.C_drewN ?_ _) | (with_reducible refine Kd.C_drew ?_)))
                        (case side2 => exact HC337.out)
                        rintro e w198 ⟨v389, rfl, ho0, hb⟩
                        refine ⟨_, rfl, ?_⟩
                        replace HO376 := Aside0.mk (Kd.R_below (by (with_reducible repeat (first | apply Kd.R_alloc | apply Kd.R_drewN | apply Kd.R_drew)); exact HO376.out) hb)
                        replace HO380 := Aside0.mk (Rd.below (by (with_reducible repeat (first | apply Rd.alloc | apply Rd.drewN | apply Rd.drew)); exact HO380.out) hb rfl)
                        replace HO383 := Aside0.mk (Rd.below (by (with_reducible repeat (first | apply Rd.alloc | apply Rd.drewN | apply Rd.drew)); exact HO383.out) hb rfl)
                        replace HO387 := Aside0.mk (Rd.below (by (with_reducible repeat (first | apply Rd.alloc | apply Rd.drewN | apply Rd.drew)); exact HO387.out) hb rfl)
                        have HO390 := Aside0.mk ho0
                        replace BK332 := bb hb BK332.out
                        replace BK333 := bb hb BK333.out
                        replace BK334 := bb hb BK334.out
                        replace BK345 := bb hb BK345.out
                        replace BK346 := bb hb BK346.out
                        replace HB := Aside0.mk (below_step (by repeat (first | (with_reducible first | exact HB.out | apply below_alloc | apply pw_below_drewN | apply below_drew1) | exact HB.out)) hb)
                        obtain ⟨Ao199, co199, eo199⟩ := Rd.slice HO387.out
                        (first | subst eo199 | (injection eo199 with f1_ f2_ f3_; have f4_ := f1_.symm; have f5_ := f3_.symm; clear f1_ f2_ f3_; subst f4_; subst f5_))
                        obtain ⟨Ao200, co200, eo200⟩ := Rd.slice HO390.out
                        (first | subst eo200 | (injection eo200 with f1_ f2_ f3_; have f4_ := f1_.symm; have f5_ := f3_.symm; clear f1_ f2_ f3_; subst f4_; subst f5_))
                        refine hK.out _ _ ⟨(blk_cell BK332.out 0).trans rfl, (blk_cell BK332.out 1).trans rfl, (blk_cell BK332.out 2).trans rfl, (blk_cell BK332.out 3).trans rfl, (blk_cell BK332.out 4).trans rfl, (blk_cell BK332.out 5).trans rfl, (blk_cell BK332.out 6).trans rfl⟩ (fun hHeld => ?_)
                        clear hK K
                        refine nm (h := ?_)
                        refine one_ (i := 23) (N := some 179) fl116 rfl rfl (one_of HT_.out (by kernel_rfl)) (by decide) (fun K hK => ?_)
                        refine goes_ Try.func16 (by kernel_rfl) rfl #[.slice Ao199 t385.length co199, .slice Ao200 t388.length co200] (by rfl) rfl rfl (by (try simp only [List.map_toArray, List.map_cons, List.map_nil]); first | done | rfl | (simp only [List.length_drop, List.length_take]; rfl)) ?_
                        with_reducible refine (tripartiteref01_Same.calls kj107 _ _ t385 _ _ t388 false _ ?side1 ?side2 ?side3 ?side4 A155.out).mono ?_
                        (case side1 => repeat (first | exact (Rd.reads HO387.out).2 | (with_reducible refine Kd.C_alloc ?_ _) | (with_reducible refine Kd.C_drewN ?_ _) | (with_reducible refine Kd.C_drew ?_)))
                        (case side2 => exact (Rd.reads HO387.out).1)
                        (case side3 => repeat (first | exact (Rd.reads HO390.out).2 | (with_reducible refine Kd.C_alloc ?_ _) | (with_reducible refine Kd.C_drewN ?_ _) | (with_reducible refine Kd.C_drew ?_)))
                        (case side4 => exact (Rd.reads HO390.out).1)
                        rintro e w' ⟨rfl, ⟨nd, rfl⟩⟩
                        refine ⟨_, rfl, ?_⟩
                        refine hK.out _ _ ⟨(blk_cell BK332.out 0).trans rfl, (blk_cell BK332.out 1).trans rfl, (blk_cell BK332.out 2).trans rfl, (blk_cell BK332.out 3).trans rfl, (blk_cell BK332.out 4).trans rfl, (blk_cell BK332.out 5).trans rfl, (blk_cell BK332.out 6).trans rfl⟩ (fun hHeld => ?_)
                        clear hK K
                        refine nm (h := ?_)
                        refine pu 24 (some 180) fl117 rfl rfl HT_.out (fun _ _ _ h => h) (h := ?_)
                        refine done_ (done_of HT_.out (by kernel_rfl)) ?_
                        try go_wp2
                        go_ret
                        exact ⟨by first | rfl | (simp [errW_none, errW_some] <;> rfl) | (simp only [← hji4, ← hji7, ← hji10]; first | rfl | (simp [errW_none, errW_some] <;> rfl)) | (simp [*, errW_none, errW_some] <;> rfl), by repeat (first | (with_reducible first | exact HB.out | apply below_alloc | apply pw_below_drewN | apply below_drew1 | refine below_set ?_ GE332.out | refine below_set ?_ GE333.out | refine below_set ?_ GE334.out | refine below_set ?_ GE345.out | refine below_set ?_ GE346.out) | exact HB.out)⟩
                      ·replace c152 := Bool.eq_false_iff.mpr c152
                       subst c152
                       have H1 : (some (t372 == (rd y374 t364))) = some r := by rw [if_neg (show ¬ (false = true) by decide)] at H; exact H
                       clear H
                       have H := H1
                       clear H1
                       obtain rfl := Option.some.inj H
                       try go_wp2
                       replace BK332 := Aside0.mk (blk_drew BK332.out)
                       replace BK333 := Aside0.mk (blk_drew BK333.out)
                       replace BK334 := Aside0.mk (blk_drew BK334.out)
                       replace BK345 := Aside0.mk (blk_drew BK345.out)
                       replace BK346 := Aside0.mk (blk_drew BK346.out)
                       replace HB := Aside0.mk (below_drew1 HB.out)
                       refine start_ (n := 13) (S := fun w' => w'.cell? ⟨gb345, 0, none⟩ = some (.bool t338) ∧ w'.cell? ⟨gb345, 1, none⟩ = some (.int .i64 t339) ∧ w'.cell? ⟨gb345, 2, none⟩ = some (.int .i64 t340) ∧ w'.cell? ⟨gb345, 3, none⟩ = some (.int .i64 t341) ∧ w'.cell? ⟨gb345, 4, none⟩ = some (.int .i64 t342) ∧ w'.cell? ⟨gb345, 5, none⟩ = some (.int .i64 t343) ∧ w'.cell? ⟨gb345, 6, none⟩ = some (.int .i64 t344)) (ds := []) fl78 (by kernel_rfl) rfl rfl ⟨(blk_cell BK345.out 0).trans rfl, (blk_cell BK345.out 1).trans rfl, (blk_cell BK345.out 2).trans rfl, (blk_cell BK345.out 3).trans rfl, (blk_cell BK345.out 4).trans rfl, (blk_cell BK345.out 5).trans rfl, (blk_cell BK345.out 6).trans rfl⟩ (fun hHeld => ?_); refine with_tabW tripartitelaw06_ChunkClasses.tab16 tripartitelaw06_ChunkClasses.bits16 (fun HT_ HW_ => ?_)
                       generalize wc.drew = w201 at BK332 BK333 BK334 BK345 BK346 HB hHeld ⊢
                       refine pu 1 (some 135) fl79 rfl rfl HT_.out (fun _ _ _ h => h) (h := ?_)
                       refine pu 2 (some 136) fl80 rfl rfl HT_.out (fun _ _ _ h => h) (h := ?_)
                       refine pu 3 (some 137) fl81 rfl rfl HT_.out (fun _ _ _ h => h) (h := ?_)
                       refine pu 7 (some 141) fl82 rfl rfl HT_.out (fun _ _ _ h => h) (h := ?_)
                       refine pu 8 (some 142) fl83 rfl rfl HT_.out (fun _ _ _ h => h) (h := ?_)
                       refine pu 9 (some 143) fl84 rfl rfl HT_.out (fun _ _ _ h => h) (h := ?_)
                       refine tk 0 (some 134) fl85 rfl rfl HT_.out HW_.out (fun _ _ _ h => h) hHeld (hy := by rintro w' ⟨s0, s1, s2, s3, s4, s5, s6⟩; go_simp; with_reducible rfl) (h := ?_)
                       refine tk 5 (some 139) fl86 rfl rfl HT_.out HW_.out (fun _ _ _ h => h) hHeld (hy := by rintro w' ⟨s0, s1, s2, s3, s4, s5, s6⟩; go_simp; with_reducible rfl) (h := ?_)
                       refine one_ (i := 4) (N := some 138) fl87 rfl rfl (one_of HT_.out (by kernel_rfl)) (by decide) (fun K hK => ?_)
                       refine goes_ Try.func19 (by kernel_rfl) rfl #[.agg #[.bool t338, .int .i64 t339, .int .i64 t340, .int .i64 t341, .int .i64 t342, .int .i64 t343, .int .i64 t344], .slice A1_0 (l1_0.take ((ji4) : Int).toNat).length c1_0, .slice A1_1 (l1_1.take ((ji7) : Int).toNat).length c1_1, .slice A1_2 (l1_2.take ((ji10) : Int).toNat).length c1_2] (by rfl) rfl rfl (by (try simp only [List.map_toArray, List.map_cons, List.map_nil]); first | done | (rw [TLji4.out, TLji7.out, TLji10.out] <;> rfl) | (simp only [hji10, hji4, hji7]; rfl) | rfl | (simp only [List.length_drop, List.length_take]; rfl)) ?_
                       with_reducible refine (chunk_Chunk_Class.calls kj107 t338 t339 t340 t341 t342 t343 t344 _ _ (l1_0.take ((ji4) : Int).toNat) _ _ (l1_1.take ((ji7) : Int).toNat) _ _ (l1_2.take ((ji10) : Int).toNat) t364 _ ?side1 ?side2 ?side3 ?side4 ?side5 ?side6 A127.out).mono ?_
                       (case side1 => repeat (first | exact (Kd.C_below HR335.out HB.out) | (with_reducible refine Kd.C_alloc ?_ _) | (with_reducible refine Kd.C_drewN ?_ _) | (with_reducible refine Kd.C_drew ?_)))
                       (case side2 => exact HC335.out)
                       (case side3 => repeat (first | exact (Kd.C_below HR336.out HB.out) | (with_reducible refine Kd.C_alloc ?_ _) | (with_reducible refine Kd.C_drewN ?_ _) | (with_reducible refine Kd.C_drew ?_)))
                       (case side4 => exact HC336.out)
                       (case side5 => repeat (first | exact (Kd.C_below HR337.out HB.out) | (with_reducible refine Kd.C_alloc ?_ _) | (with_reducible refine Kd.C_drewN ?_ _) | (with_reducible refine Kd.C_drew ?_)))
                       (case side6 => exact HC337.out)
                       rintro e w202 ⟨rfl, hb⟩
                       refine ⟨_, rfl, ?_⟩
                       replace BK332 := bb hb BK332.out
                       replace BK333 := bb hb BK333.out
                       replace BK334 := bb hb BK334.out
                       replace BK345 := bb hb BK345.out
                       replace BK346 := bb hb BK346.out
                       replace HB := Aside0.mk (below_step (by repeat (first | (with_reducible first | exact HB.out | apply below_alloc | apply pw_below_drewN | apply below_drew1) | exact HB.out)) hb)
                       refine hK.out _ _ ⟨(blk_cell BK345.out 0).trans rfl, (blk_cell BK345.out 1).trans rfl, (blk_cell BK345.out 2).trans rfl, (blk_cell BK345.out 3).trans rfl, (blk_cell BK345.out 4).trans rfl, (blk_cell BK345.out 5).trans rfl, (blk_cell BK345.out 6).trans rfl⟩ (fun hHeld => ?_)
                       clear hK K
                       refine nm (h := ?_)
                       refine one_ (i := 6) (N := some 140) fl88 rfl rfl (one_of HT_.out (by kernel_rfl)) (by decide) (fun K hK => ?_)
                       refine goes_ Try.func13 (by kernel_rfl) rfl #[.agg #[.bool t338, .int .i64 t339, .int .i64 t340, .int .i64 t341, .int .i64 t342, .int .i64 t343, .int .i64 t344]] (by rfl) rfl rfl (by (try simp only [List.map_toArray, List.map_cons, List.map_nil]); first | done | rfl | (simp only [List.length_drop, List.length_take]; rfl)) ?_
                       with_reducible refine (chunk_Chunk_Turned.calls t338 t339 t340 t341 t342 t343 t344 t365 t366 t367 t368 t369 t370 t371 _ A128.out).mono ?_
                       rintro e w203 ⟨rfl, hb⟩
                       refine ⟨_, rfl, ?_⟩
                       replace BK332 := bb hb BK332.out
                       replace BK333 := bb hb BK333.out
                       replace BK334 := bb hb BK334.out
                       replace BK345 := bb hb BK345.out
                       replace BK346 := bb hb BK346.out
                       replace HB := Aside0.mk (below_step (by repeat (first | (with_reducible first | exact HB.out | apply below_alloc | apply pw_below_drewN | apply below_drew1) | exact HB.out)) hb)
                       refine hK.out _ _ ⟨(blk_cell BK345.out 0).trans rfl, (blk_cell BK345.out 1).trans rfl, (blk_cell BK345.out 2).trans rfl, (blk_cell BK345.out 3).trans rfl, (blk_cell BK345.out 4).trans rfl, (blk_cell BK345.out 5).trans rfl, (blk_cell BK345.out 6).trans rfl⟩ (fun hHeld => ?_)
                       clear hK K
                       refine nm (h := ?_)
                       refine one_ (i := 10) (N := some 144) fl89 rfl rfl (one_of HT_.out (by kernel_rfl)) (by decide) (fun K hK => ?_)
                       refine goes_ Try.func19 (by kernel_rfl) rfl #[.agg #[.bool t365, .int .i64 t366, .int .i64 t367, .int .i64 t368, .int .i64 t369, .int .i64 t370, .int .i64 t371], .slice A1_0 (l1_0.take ((ji4) : Int).toNat).length c1_0, .slice A1_2 (l1_2.take ((ji10) : Int).toNat).length c1_2, .slice A1_1 (l1_1.take ((ji7) : Int).toNat).length c1_1] (by rfl) rfl rfl (by (try simp only [List.map_toArray, List.map_cons, List.map_nil]); first | done | (rw [TLji4.out, TLji7.out, TLji10.out] <;> rfl) | (simp only [hji10, hji4, hji7]; rfl) | rfl | (simp only [List.length_drop, List.length_take]; rfl)) ?_
                       with_reducible refine (chunk_Chunk_Class.calls kj107 t365 t366 t367 t368 t369 t370 t371 _ _ (l1_0.take ((ji4) : Int).toNat) _ _ (l1_2.take ((ji10) : Int).toNat) _ _ (l1_1.take ((ji7) : Int).toNat) t372 _ ?side1 ?side2 ?side3 ?side4 ?side5 ?side6 A129.out).mono ?_
                       (case side1 => repeat (first | exact (Kd.C_below HR335.out HB.out) | (with_reducible refine Kd.C_alloc ?_ _) | (with_reducible refine Kd.C_drewN ?_ _) | (with_reducible refine Kd.C_drew ?_)))
                       (case side2 => exact HC335.out)
                       (case side3 => repeat (first | exact (Kd.C_below HR337.out HB.out) | (with_reducible refine Kd.C_alloc ?_ _) | (with_reducible refine Kd.C_drewN ?_ _) | (with_reducible refine Kd.C_drew ?_)))
                       (case side4 => exact HC337.out)
                       (case side5 => repeat (first | exact (Kd.C_below HR336.out HB.out) | (with_reducible refine Kd.C_alloc ?_ _) | (with_reducible refine Kd.C_drewN ?_ _) | (with_reducible refine Kd.C_drew ?_)))
                       (case side6 => exact HC336.out)
                       rintro e w204 ⟨rfl, hb⟩
                       refine ⟨_, rfl, ?_⟩
                       replace BK332 := bb hb BK332.out
                       replace BK333 := bb hb BK333.out
                       replace BK334 := bb hb BK334.out
                       replace BK345 := bb hb BK345.out
                       replace BK346 := bb hb BK346.out
                       replace HB := Aside0.mk (below_step (by repeat (first | (with_reducible first | exact HB.out | apply below_alloc | apply pw_below_drewN | apply below_drew1) | exact HB.out)) hb)
                       refine hK.out _ _ ⟨(blk_cell BK345.out 0).trans rfl, (blk_cell BK345.out 1).trans rfl, (blk_cell BK345.out 2).trans rfl, (blk_cell BK345.out 3).trans rfl, (blk_cell BK345.out 4).trans rfl, (blk_cell BK345.out 5).trans rfl, (blk_cell BK345.out 6).trans rfl⟩ (fun hHeld => ?_)
                       clear hK K
                       refine nm (h := ?_)
                       refine pu 11 (some 14) fl90 rfl rfl HT_.out (fun _ _ _ h => h) (h := ?_)
                       refine pu 12 (some 15) fl91 rfl rfl HT_.out (fun _ _ _ h => h) (h := ?_)
                       refine done_ (done_of HT_.out (by kernel_rfl)) ?_
                       have hnb205 := NB332_333.out
                       have hnc205 := NB333_332.out
                       have hnb206 := NB332_334.out
                       have hnc206 := NB334_332.out
                       have hnb207 := NB332_345.out
                       have hnc207 := NB345_332.out
                       have hnb208 := NB332_346.out
                       have hnc208 := NB346_332.out
                       have hcz209_0 : w204.cell? ⟨gb332, 0, none⟩ = some (.bool false) := (blk_cell BK332.out 0).trans rfl
                       have hcz209_1 : w204.cell? ⟨gb332, 1, none⟩ = some (.int .i64 a0_1) := (blk_cell BK332.out 1).trans rfl
                       have hcz209_2 : w204.cell? ⟨gb332, 2, none⟩ = some (.int .i64 a0_2) := (blk_cell BK332.out 2).trans rfl
                       have hcz209_3 : w204.cell? ⟨gb332, 3, none⟩ = some (.int .i64 a0_3) := (blk_cell BK332.out 3).trans rfl
                       have hcz209_4 : w204.cell? ⟨gb332, 4, none⟩ = some (.int .i64 a0_4) := (blk_cell BK332.out 4).trans rfl
                       have hcz209_5 : w204.cell? ⟨gb332, 5, none⟩ = some (.int .i64 a0_5) := (blk_cell BK332.out 5).trans rfl
                       have hcz209_6 : w204.cell? ⟨gb332, 6, none⟩ = some (.int .i64 a0_6) := (blk_cell BK332.out 6).trans rfl
                       have hfz209_0 := blk_frozen BK332.out 0
                       have hfz209_1 := blk_frozen BK332.out 1
                       have hfz209_2 := blk_frozen BK332.out 2
                       have hfz209_3 := blk_frozen BK332.out 3
                       have hfz209_4 := blk_frozen BK332.out 4
                       have hfz209_5 := blk_frozen BK332.out 5
                       have hfz209_6 := blk_frozen BK332.out 6
                       try go_wp2_with (first | ((with_reducible refine gate_callee (f := 20) rfl ?_); refine goesL_ (some 150) rfl rfl Try.func20 (by kernel_rfl) rfl #[.agg #[.bool false, .int .i64 a0_1, .int .i64 a0_2, .int .i64 a0_3, .int .i64 a0_4, .int .i64 a0_5, .int .i64 a0_6], .slice A1_0 (l1_0.take ((ji4) : Int).toNat).length c1_0, .slice A1_1 (l1_1.take ((ji7) : Int).toNat).length c1_1, .slice A1_2 (l1_2.take ((ji10) : Int).toNat).length c1_2] rfl (by (try simp only [List.map_toArray, List.map_cons, List.map_nil]); first | done | (rw [TLji4.out, TLji7.out, TLji10.out] <;> rfl) | (simp only [hji10, hji4, hji7]; rfl) | rfl | (simp only [List.length_drop, List.length_take]; rfl)) ?_; (with_reducible refine (tripartiteref06_Class.calls kj107 false a0_1 a0_2 a0_3 a0_4 a0_5 a0_6 _ _ (l1_0.take ((ji4) : Int).toNat) _ _ (l1_1.take ((ji7) : Int).toNat) _ _ (l1_2.take ((ji10) : Int).toNat) t373 _ ?side1 ?side2 ?side3 ?side4 ?side5 ?side6 A130.out).mono ?_); (case side1 => repeat (first | exact (Kd.C_below HR335.out HB.out) | (with_reducible refine Kd.C_alloc ?_ _) | (with_reducible refine Kd.C_drewN ?_ _) | (with_reducible refine Kd.C_drew ?_))); (case side2 => exact HC335.out); (case side3 => repeat (first | exact (Kd.C_below HR336.out HB.out) | (with_reducible refine Kd.C_alloc ?_ _) | (with_reducible refine Kd.C_drewN ?_ _) | (with_reducible refine Kd.C_drew ?_))); (case side4 => exact HC336.out); (case side5 => repeat (first | exact (Kd.C_below HR337.out HB.out) | (with_reducible refine Kd.C_alloc ?_ _) | (with_reducible refine Kd.C_drewN ?_ _) | (with_reducible refine Kd.C_drew ?_))); (case side6 => exact HC337.out); rintro e w210 ⟨rfl, hb⟩; refine ⟨_, rfl, ?_⟩; have n0_ := bb hb BK332.out; have n1_ := bb hb BK333.out; have n2_ := bb hb BK334.out; have n3_ := bb hb BK345.out; have n4_ := bb hb BK346.out; have n5_ := Aside0.mk (below_step (by repeat (first | (with_reducible first | exact HB.out | apply below_alloc | apply pw_below_drewN | apply below_drew1 | refine below_set ?_ GE332.out | refine below_set ?_ GE333.out | refine below_set ?_ GE334.out | refine below_set ?_ GE345.out | refine below_set ?_ GE346.out) | exact HB.out)) hb); clear BK332; clear BK333; clear BK334; clear BK345; clear BK346; clear HB; have BK332 := n0_; have BK333 := n1_; have BK334 := n2_; have BK345 := n3_; have BK346 := n4_; have HB := n5_; clear n0_ n1_ n2_ n3_ n4_ n5_; (try clear hb); (try clear hb2); (try clear hk); (try clear hi)) | ((with_reducible refine gate_dst (N := 152) rfl ?_); (try (refine gate_guard (by rfl) ?_; dsimp only)); refine Kd.R_lit (Kd.int .i64) _ 3 ?hg (N := 152) ?hd (xs := ([0, 2, 1, 3, 4] : List Int)) (inner := [.int .i64 0, .int .i64 2, .int .i64 1, .int .i64 3, .int .i64 4]) (ok := fun _ => True) (okp := fun _ => True) ?hr ?hp (fun _ hk => hk) trivial (Below.refl _ _) (Nat.le_refl _) (by simp) ?_; (case hd => rfl); (case hg => rfl); (case hr => first | (go_simp; done) | (go_simp; rfl)); (case hp => exact (Reps.one (show Kd.M (Kd.int .i64) _ _ _ 0 [.int .i64 0] from rfl) (Reps.one (show Kd.M (Kd.int .i64) _ _ _ 2 [.int .i64 2] from rfl) (Reps.one (show Kd.M (Kd.int .i64) _ _ _ 1 [.int .i64 1] from rfl) (Reps.one (show Kd.M (Kd.int .i64) _ _ _ 3 [.int .i64 3] from rfl) (Reps.one (show Kd.M (Kd.int .i64) _ _ _ 4 [.int .i64 4] from rfl) (Reps.none _ _))))))); intro v375 w211 ho212 hb hg_ hnew_; clear hg_ hnew_; (first | rw [← Ny374.out] at ho212 | (simp only [Int.reduceToNat] at ho212; rw [← Ny374.out] at ho212)); have n0_ := Aside0.mk (Kd.R_lower ho212 (below_size (by repeat (first | (with_reducible first | exact HB.out | apply below_alloc | apply pw_below_drewN | apply below_drew1 | refine below_set ?_ GE332.out | refine below_set ?_ GE333.out | refine below_set ?_ GE334.out | refine below_set ?_ GE345.out | refine below_set ?_ GE346.out) | exact HB.out)))); have n1_ := bb hb BK332.out; have n2_ := bb hb BK333.out; have n3_ := bb hb BK334.out; have n4_ := bb hb BK345.out; have n5_ := bb hb BK346.out; have n6_ := Aside0.mk (below_step (by repeat (first | (with_reducible first | exact HB.out | apply below_alloc | apply pw_below_drewN | apply below_drew1 | refine below_set ?_ GE332.out | refine below_set ?_ GE333.out | refine below_set ?_ GE334.out | refine below_set ?_ GE345.out | refine below_set ?_ GE346.out) | exact HB.out)) hb); clear BK332; clear BK333; clear BK334; clear BK345; clear BK346; clear HB; have HO376 := n0_; have BK332 := n1_; have BK333 := n2_; have BK334 := n3_; have BK345 := n4_; have BK346 := n5_; have HB := n6_; clear n0_ n1_ n2_ n3_ n4_ n5_ n6_; clear hb ho212; obtain ⟨Ao213, co213, eo213⟩ := Kd.R_slice HO376.out; subst eo213; have p377 : 0 ≤ (t364 : Int) := of_decide_eq_true (by first | (with_reducible assumption) | assumption); have q377 : t364 < (y374.length : Int) := of_decide_eq_true (by first | (with_reducible assumption) | assumption); obtain ⟨ad377, e377, hx377_0⟩ := Kd.at_int (Kd.R_reads' HO376.out).2.2 t364 p377 q377; cases e377; replace p377 := eq_true p377; replace q377 := eq_true q377))
                       replace HO376 := Aside0.mk (Kd.R_drew HO376.out)
                       replace BK332 := Aside0.mk (blk_drew BK332.out)
                       replace BK333 := Aside0.mk (blk_drew BK333.out)
                       replace BK334 := Aside0.mk (blk_drew BK334.out)
                       replace BK345 := Aside0.mk (blk_drew BK345.out)
                       replace BK346 := Aside0.mk (blk_drew BK346.out)
                       replace HB := Aside0.mk (below_drew1 HB.out)
                       refine start_ (n := 25) (S := fun w' => w'.cell? ⟨gb332, 0, none⟩ = some (.bool false) ∧ w'.cell? ⟨gb332, 1, none⟩ = some (.int .i64 a0_1) ∧ w'.cell? ⟨gb332, 2, none⟩ = some (.int .i64 a0_2) ∧ w'.cell? ⟨gb332, 3, none⟩ = some (.int .i64 a0_3) ∧ w'.cell? ⟨gb332, 4, none⟩ = some (.int .i64 a0_4) ∧ w'.cell? ⟨gb332, 5, none⟩ = some (.int .i64 a0_5) ∧ w'.cell? ⟨gb332, 6, none⟩ = some (.int .i64 a0_6)) (ds := []) fl92 (by kernel_rfl) rfl rfl ⟨(blk_cell BK332.out 0).trans rfl, (blk_cell BK332.out 1).trans rfl, (blk_cell BK332.out 2).trans rfl, (blk_cell BK332.out 3).trans rfl, (blk_cell BK332.out 4).trans rfl, (blk_cell BK332.out 5).trans rfl, (blk_cell BK332.out 6).trans rfl⟩ (fun hHeld => ?_); refine with_tabW tripartitelaw06_ChunkClasses.tab20 tripartitelaw06_ChunkClasses.bits20 (fun HT_ HW_ => ?_)
                       generalize w211.drew = w214 at HO376 BK332 BK333 BK334 BK345 BK346 HB hHeld ⊢
                       refine pu 0 (some 156) fl93 rfl rfl HT_.out (fun _ _ _ h => h) (h := ?_)
                       refine tk 1 (some 157) fl94 rfl rfl HT_.out HW_.out (fun _ _ _ h => h) hHeld (hy := by rintro w' ⟨s0, s1, s2, s3, s4, s5, s6⟩; go_simp; with_reducible rfl) (h := ?_)
                       refine pu 2 (some 158) fl95 rfl rfl HT_.out (fun _ _ _ h => h) (h := ?_)
                       refine pu 3 (some 159) fl96 rfl rfl HT_.out (fun _ _ _ h => h) (h := ?_)
                       refine pu 4 (some 160) fl97 rfl rfl HT_.out (fun _ _ _ h => h) (h := ?_)
                       refine pu 6 (some 162) fl118 rfl rfl HT_.out (fun _ _ _ h => h) (h := ?_)
                       refine pu 8 (some 164) fl119 rfl rfl HT_.out (fun _ _ _ h => h) (h := ?_)
                       refine pu 10 (some 166) fl120 rfl rfl HT_.out (fun _ _ _ h => h) (h := ?_)
                       refine tk 5 (some 161) fl121 rfl rfl HT_.out HW_.out (fun _ _ _ h => h) hHeld (hy := by rintro w' ⟨s0, s1, s2, s3, s4, s5, s6⟩; go_simp; with_reducible rfl) (h := ?_)
                       refine tk 9 (some 165) fl122 rfl rfl HT_.out HW_.out (fun _ _ _ h => h) hHeld (hy := by rintro w' ⟨s0, s1, s2, s3, s4, s5, s6⟩; go_simp; with_reducible rfl) (h := ?_)
                       refine one_ (i := 7) (N := some 163) fl103 rfl rfl (one_of HT_.out (by kernel_rfl)) (by decide) (fun K hK => ?_)
                       refine goes_ Try.func18 (by kernel_rfl) rfl #[.agg #[.int .i64 a0_1, .int .i64 a0_2], .slice A1_0 (l1_0.take ((ji4) : Int).toNat).length c1_0] (by rfl) rfl rfl (by (try simp only [List.map_toArray, List.map_cons, List.map_nil]); first | done | (rw [TLji4.out] <;> rfl) | (simp only [hji4]; rfl) | rfl | (simp only [List.length_drop, List.length_take]; rfl)) ?_
                       with_reducible refine (tripartiteref06_Cut.calls a0_1 a0_2 _ _ (l1_0.take ((ji4) : Int).toNat) t378 _ ?side1 ?side2 A149.out).mono ?_
                       (case side1 => repeat (first | exact (Kd.C_below HR335.out HB.out) | (with_reducible refine Kd.C_alloc ?_ _) | (with_reducible refine Kd.C_drewN ?_ _) | (with_reducible refine Kd.C_drew ?_)))
                       (case side2 => exact HC335.out)
                       rintro e w215 ⟨v379, rfl, ho0, hb⟩
                       refine ⟨_, rfl, ?_⟩
                       replace HO376 := Aside0.mk (Kd.R_below (by (with_reducible repeat (first | apply Kd.R_alloc | apply Kd.R_drewN | apply Kd.R_drew)); exact HO376.out) hb)
                       have HO380 := Aside0.mk ho0
                       replace BK332 := bb hb BK332.out
                       replace BK333 := bb hb BK333.out
                       replace BK334 := bb hb BK334.out
                       replace BK345 := bb hb BK345.out
                       replace BK346 := bb hb BK346.out
                       replace HB := Aside0.mk (below_step (by repeat (first | (with_reducible first | exact HB.out | apply below_alloc | apply pw_below_drewN | apply below_drew1) | exact HB.out)) hb)
                       refine hK.out _ _ ⟨(blk_cell BK332.out 0).trans rfl, (blk_cell BK332.out 1).trans rfl, (blk_cell BK332.out 2).trans rfl, (blk_cell BK332.out 3).trans rfl, (blk_cell BK332.out 4).trans rfl, (blk_cell BK332.out 5).trans rfl, (blk_cell BK332.out 6).trans rfl⟩ (fun hHeld => ?_)
                       clear hK K
                       refine nm (h := ?_)
                       refine one_ (i := 11) (N := some 167) fl104 rfl rfl (one_of HT_.out (by kernel_rfl)) (by decide) (fun K hK => ?_)
                       refine goes_ Try.func18 (by kernel_rfl) rfl #[.agg #[.int .i64 a0_3, .int .i64 a0_4], .slice A1_1 (l1_1.take ((ji7) : Int).toNat).length c1_1] (by rfl) rfl rfl (by (try simp only [List.map_toArray, List.map_cons, List.map_nil]); first | done | (rw [TLji7.out] <;> rfl) | (simp only [hji7]; rfl) | rfl | (simp only [List.length_drop, List.length_take]; rfl)) ?_
                       with_reducible refine (tripartiteref06_Cut.calls a0_3 a0_4 _ _ (l1_1.take ((ji7) : Int).toNat) t381 _ ?side1 ?side2 A150.out).mono ?_
                       (case side1 => repeat (first | exact (Kd.C_below HR336.out HB.out) | (with_reducible refine Kd.C_alloc ?_ _) | (with_reducible refine Kd.C_drewN ?_ _) | (with_reducible refine Kd.C_drew ?_)))
                       (case side2 => exact HC336.out)
                       rintro e w216 ⟨v382, rfl, ho0, hb⟩
                       refine ⟨_, rfl, ?_⟩
                       replace HO376 := Aside0.mk (Kd.R_below (by (with_reducible repeat (first | apply Kd.R_alloc | apply Kd.R_drewN | apply Kd.R_drew)); exact HO376.out) hb)
                       replace HO380 := Aside0.mk (Rd.below (by (with_reducible repeat (first | apply Rd.alloc | apply Rd.drewN | apply Rd.drew)); exact HO380.out) hb rfl)
                       have HO383 := Aside0.mk ho0
                       replace BK332 := bb hb BK332.out
                       replace BK333 := bb hb BK333.out
                       replace BK334 := bb hb BK334.out
                       replace BK345 := bb hb BK345.out
                       replace BK346 := bb hb BK346.out
                       replace HB := Aside0.mk (below_step (by repeat (first | (with_reducible first | exact HB.out | apply below_alloc | apply pw_below_drewN | apply below_drew1) | exact HB.out)) hb)
                       obtain ⟨Ao217, co217, eo217⟩ := Rd.slice HO380.out
                       (first | subst eo217 | (injection eo217 with f1_ f2_ f3_; have f4_ := f1_.symm; have f5_ := f3_.symm; clear f1_ f2_ f3_; subst f4_; subst f5_))
                       obtain ⟨Ao218, co218, eo218⟩ := Rd.slice HO383.out
                       (first | subst eo218 | (injection eo218 with f1_ f2_ f3_; have f4_ := f1_.symm; have f5_ := f3_.symm; clear f1_ f2_ f3_; subst f4_; subst f5_))
                       refine hK.out _ _ ⟨(blk_cell BK332.out 0).trans rfl, (blk_cell BK332.out 1).trans rfl, (blk_cell BK332.out 2).trans rfl, (blk_cell BK332.out 3).trans rfl, (blk_cell BK332.out 4).trans rfl, (blk_cell BK332.out 5).trans rfl, (blk_cell BK332.out 6).trans rfl⟩ (fun hHeld => ?_)
                       clear hK K
                       refine nm (h := ?_)
                       refine one_ (i := 12) (N := some 168) fl105 rfl rfl (one_of HT_.out (by kernel_rfl)) (by decide) (fun K hK => ?_)
                       refine goes_ Try.func16 (by kernel_rfl) rfl #[.slice Ao217 t378.length co217, .slice Ao218 t381.length co218] (by rfl) rfl rfl (by (try simp only [List.map_toArray, List.map_cons, List.map_nil]); first | done | rfl | (simp only [List.length_drop, List.length_take]; rfl)) ?_
                       with_reducible refine (tripartiteref01_Same.calls kj107 _ _ t378 _ _ t381 false _ ?side1 ?side2 ?side3 ?side4 A151.out).mono ?_
                       (case side1 => repeat (first | exact (Rd.reads HO380.out).2 | (with_reducible refine Kd.C_alloc ?_ _) | (with_reducible refine Kd.C_drewN ?_ _) | (with_reducible refine Kd.C_drew ?_)))
                       (case side2 => exact (Rd.reads HO380.out).1)
                       (case side3 => repeat (first | exact (Rd.reads HO383.out).2 | (with_reducible refine Kd.C_alloc ?_ _) | (with_reducible refine Kd.C_drewN ?_ _) | (with_reducible refine Kd.C_drew ?_)))
                       (case side4 => exact (Rd.reads HO383.out).1)
                       rintro e w' ⟨rfl, ⟨nd, rfl⟩⟩
                       refine ⟨_, rfl, ?_⟩
                       refine hK.out _ _ ⟨(blk_cell BK332.out 0).trans rfl, (blk_cell BK332.out 1).trans rfl, (blk_cell BK332.out 2).trans rfl, (blk_cell BK332.out 3).trans rfl, (blk_cell BK332.out 4).trans rfl, (blk_cell BK332.out 5).trans rfl, (blk_cell BK332.out 6).trans rfl⟩ (fun hHeld => ?_)
                       clear hK K
                       refine nm (h := ?_)
                       refine pu 13 (some 169) fl106 rfl rfl HT_.out (fun _ _ _ h => h) (h := ?_)
                       refine pu 14 (some 170) fl107 rfl rfl HT_.out (fun _ _ _ h => h) (h := ?_)
                       refine un 15 (some 171) fl108 rfl rfl HT_.out (fun _ _ _ h => h) (h := ?_)
                       refine un 16 (some 172) fl109 rfl rfl HT_.out (fun _ _ _ h => h) (h := ?_)
                       refine un 17 (some 173) fl110 rfl rfl HT_.out (fun _ _ _ h => h) (h := ?_)
                       refine un 18 (some 174) fl111 rfl rfl HT_.out (fun _ _ _ h => h) (h := ?_)
                       refine un 19 (some 175) fl112 rfl rfl HT_.out (fun _ _ _ h => h) (h := ?_)
                       refine un 20 (some 176) fl113 rfl rfl HT_.out (fun _ _ _ h => h) (h := ?_)
                       refine un 21 (some 177) fl114 rfl rfl HT_.out (fun _ _ _ h => h) (h := ?_)
                       refine un 22 (some 178) fl115 rfl rfl HT_.out (fun _ _ _ h => h) (h := ?_)
                       refine un 23 (some 179) fl116 rfl rfl HT_.out (fun _ _ _ h => h) (h := ?_)
                       refine pu 24 (some 180) fl117 rfl rfl HT_.out (fun _ _ _ h => h) (h := ?_)
                       refine done_ (done_of HT_.out (by kernel_rfl)) ?_
                       try go_wp2
                       go_ret
                       exact ⟨by first | rfl | (simp [errW_none, errW_some] <;> rfl) | (simp only [← hji4, ← hji7, ← hji10]; first | rfl | (simp [errW_none, errW_some] <;> rfl)) | (simp [*, errW_none, errW_some] <;> rfl), by repeat (first | (with_reducible first | exact HB.out | apply below_alloc | apply pw_below_drewN | apply below_drew1 | refine below_set ?_ GE332.out | refine below_set ?_ GE333.out | refine below_set ?_ GE334.out | refine below_set ?_ GE345.out | refine below_set ?_ GE346.out) | exact HB.out)⟩
                    ·rw [if_neg c133] at H
                     exact absurd H (by simp)
                   ·rw [if_neg c132] at H
                    exact absurd H (by simp)
                  ·rw [if_neg c131] at H
                   exact absurd H (by simp)
        ·replace c19 := Bool.eq_false_iff.mpr c19
         subst c19
         have H1 : (none) = some r := by rw [if_neg (show ¬ (false = true) by decide)] at H; exact H
         clear H
         have H := H1
         clear H1
         exact absurd H (by simp)
       ·replace c15 := Bool.eq_false_iff.mpr c15
        subst c15
        have H1 : (none) = some r := by rw [if_neg (show ¬ (false = true) by decide)] at H; exact H
        clear H
        have H := H1
        clear H1
        exact absurd H (by simp)
      ·rw [if_neg c12] at H
       exact absurd H (by simp)
     ·rw [if_neg c11] at H
      exact absurd H (by simp)
    ·rw [if_neg c9] at H
     exact absurd H (by simp)
   ·rw [if_neg c8] at H
    exact absurd H (by simp)
  ·rw [if_neg c6] at H
   exact absurd H (by simp)
 ·rw [if_neg c5] at H
  exact absurd H (by simp)

end Go.Proofs.Ytkliaoikljjeaaa.X

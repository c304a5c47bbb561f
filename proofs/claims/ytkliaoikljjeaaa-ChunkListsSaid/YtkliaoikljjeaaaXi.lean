-- Made by this session's programs (wip/prepatch.py, xprint.sh, assemble.py): the kit's printer over an input that this session patched, cut and joined with contracts proved by hand.
import Derived.Test.YtkliaoikljjeaaaXa
import Derived.Test.YtkliaoikljjeaaaXb
import Derived.Test.YtkliaoikljjeaaaXp
import Derived.Test.YtkliaoikljjeaaaXo
import Derived.Test.YtkliaoikljjeaaaXf
import Derived.Test.YtkliaoikljjeaaaXc
import Derived.Test.YtkliaoikljjeaaaXg
import Derived.Test.YtkliaoikljjeaaaXh
namespace Go.Proofs.Ytkliaoikljjeaaa.X
open Go.RowKit Go.Proofs.YtkliaoikljjeaaaW.PrintWords Go.Proofs.YtkliaoikljjeaaaW.PrintLast Go.Proofs.YtkliaoikljjeaaaW.PrintMore
attribute [local go_sem] max2_int min2_int max_two min_two max_three min_three max_four min_four   -- for this text's walks alone
set_option linter.unusedVariables false
set_option linter.unusedSimpArgs false

attribute [local go_sem high] eqA22 eqA43
/-! ### tripartitelaw06_ChunkLists: function 3 -/
mutual
def tripartitelaw06_ChunkLists.j0 : Nat → Int → Int → Int → List (S40) → Bool → List (S40) → Bool → Option (Bool)
 | 0, _, _, _, _, _, _, _ => none
 | k + 1, x7, x8, x9, x10, x13, x14, x103 => if x103 = true then (none) else (tripartitelaw06_ChunkLists.l0 k x7 x8 x9 x10 x13 x14 0 0 0 0)
def tripartitelaw06_ChunkLists.l0 : Nat → Int → Int → Int → List (S40) → Bool → List (S40) → Int → Int → Int → Int → Option (Bool)
 | 0, _, _, _, _, _, _, _, _, _, _ => none
 | k + 1, x7, x8, x9, x10, x13, x14, x17, x282000, x282001, x282002 => if x17 < (x10.length : Int) then (if 0 ≤ x17 then (if x17 < (x14.length : Int) then ((chunk_Chunk_Turned.f ((rd_T40 x14 x17).f0) ((rd_T40 x14 x17).f1.f0) ((rd_T40 x14 x17).f1.f1) ((rd_T40 x14 x17).f2.f0) ((rd_T40 x14 x17).f2.f1) ((rd_T40 x14 x17).f3.f0) ((rd_T40 x14 x17).f3.f1)).bind fun bt285 => ((tripartitelaw06_one.f bt285.1 bt285.2.1 bt285.2.2.1 bt285.2.2.2.1 bt285.2.2.2.2.1 bt285.2.2.2.2.2.1 bt285.2.2.2.2.2.2).bind fun bt292 => ((tripartitelaw06_one.f ((rd_T40 x10 x17).f0) ((rd_T40 x10 x17).f1.f0) ((rd_T40 x10 x17).f1.f1) ((rd_T40 x10 x17).f2.f0) ((rd_T40 x10 x17).f2.f1) ((rd_T40 x10 x17).f3.f0) ((rd_T40 x10 x17).f3.f1)).bind fun bt299 => (if (!(bt292.1 == bt299.1) || ((!(bt292.2.1 == bt299.2.1) || (!(bt292.2.2.1 == bt299.2.2.1))) || ((!(bt292.2.2.2.1 == bt299.2.2.2.1) || (!(bt292.2.2.2.2.1 == bt299.2.2.2.2.1))) || ((!(bt292.2.2.2.2.2.1 == bt299.2.2.2.2.2.1) || (!(bt292.2.2.2.2.2.2 == bt299.2.2.2.2.2.2))))))) = true then (none) else (if ((rd_T40 x10 x17).f1.f0) = x282000 then (if ((rd_T40 x10 x17).f2.f0) = x282001 then (if ((rd_T40 x10 x17).f3.f0) = x282002 then (if x17 > 0 then (if 0 ≤ (wrap64 (x17 - 1)) then (if (wrap64 (x17 - 1)) < (x10.length : Int) then (tripartitelaw06_ChunkLists.j2 k x7 x8 x9 x10 x13 x14 x17 (((rd_T40 x10 (wrap64 (x17 - 1))).f0) == ((rd_T40 x10 x17).f0)) ((rd_T40 x10 x17).f0) ((rd_T40 x10 x17).f1.f0) ((rd_T40 x10 x17).f1.f1) ((rd_T40 x10 x17).f2.f0) ((rd_T40 x10 x17).f2.f1) ((rd_T40 x10 x17).f3.f0) ((rd_T40 x10 x17).f3.f1)) else (none)) else (none)) else (tripartitelaw06_ChunkLists.j2 k x7 x8 x9 x10 x13 x14 x17 false ((rd_T40 x10 x17).f0) ((rd_T40 x10 x17).f1.f0) ((rd_T40 x10 x17).f1.f1) ((rd_T40 x10 x17).f2.f0) ((rd_T40 x10 x17).f2.f1) ((rd_T40 x10 x17).f3.f0) ((rd_T40 x10 x17).f3.f1))) else (none)) else (none)) else (none)))))) else (none)) else (none)) else (if x13 = true then (some (x282000 == x7 && (x282001 == x8 && (x282002 == x9)))) else (some true))
def tripartitelaw06_ChunkLists.j2 : Nat → Int → Int → Int → List (S40) → Bool → List (S40) → Int → Bool → Bool → Int → Int → Int → Int → Int → Int → Option (Bool)
 | 0, _, _, _, _, _, _, _, _, _, _, _, _, _, _, _ => none
 | k + 1, x7, x8, x9, x10, x13, x14, x17, x161, x284000, x284001, x284002, x284003, x284004, x284005, x284006 => if x161 = true then (none) else ((chunk_Span_Len.f x284001 x284002).bind fun t307 => ((chunk_Span_Len.f x284003 x284004).bind fun t308 => ((chunk_Span_Len.f x284005 x284006).bind fun t309 => (if (wrap64 ((wrap64 (t307 + t308)) + t309)) = 0 then (none) else (tripartitelaw06_ChunkLists.l0 k x7 x8 x9 x10 x13 x14 (wrap64 (x17 + 1)) x284002 x284004 x284006)))))
end
def tripartitelaw06_ChunkLists.f (k : Nat) (a0_0 : Int) (a0_1 : Int) (a0_2 : Int) (l1 : List (S65)) (l2 : List (S65)) : Option (Bool) := (tripartitelaw06_small.f a0_0).bind fun t237 => ((tripartitelaw06_small.f a0_1).bind fun t238 => ((tripartitelaw06_small.f a0_2).bind fun t239 => (if 0 ≤ (mn (l1.length : Int) 70) then (if (mn (l1.length : Int) 70) ≤ (l1.length : Int) then ((some (l1.take ((mn (l1.length : Int) 70) : Int).toNat : List (S65))).bind fun y240 => (if 0 ≤ (mn (l2.length : Int) 70) then (if (mn (l2.length : Int) 70) ≤ (l2.length : Int) then ((some (l2.take ((mn (l2.length : Int) 70) : Int).toNat : List (S65))).bind fun y244 => ((tripartitelaw03_To.f k y240).bind fun t248 => ((tripartitelaw03_To.f k y244).bind fun t251 => ((chunk_Of.f k t237 t238 t239 t248 t251).bind fun bt254 => ((tripartiteref06_Of.f k t237 t238 t239 y240 y244).bind fun bt258 => ((tripartitelaw03_To.f k y244).bind fun t262 => ((tripartitelaw03_To.f k y240).bind fun t265 => ((chunk_Of.f k t237 t239 t238 t262 t265).bind fun bt268 => ((tripartitelaw06_told.f k).bind fun t272 => (if t272 = true then (if ((bt254.2 == 0) != bt258.2) = true then (none) else (if bt254.2 = bt268.2 then (if bt258.2 = true then ((tripartitelaw06_From.f k bt254.1).bind fun t273 => ((tripartitelaw06_Same.f k t273 bt258.1).bind fun t276 => (if t276 = true then (tripartitelaw06_ChunkLists.j0 k t237 t238 t239 bt254.1 bt258.2 bt268.1 ((bt254.1.length : Int) != (bt268.1.length : Int))) else (none)))) else (if bt254.2 = 12 then ((tripartitelaw06_From.f k bt254.1).bind fun t277 => ((tripartitelaw06_Same.f k t277 bt258.1).bind fun t280 => (if t280 = true then (tripartitelaw06_ChunkLists.j0 k t237 t238 t239 bt254.1 bt258.2 bt268.1 ((bt254.1.length : Int) != (bt268.1.length : Int))) else (none)))) else (none))) else (none))) else (none))))))))))) else (none)) else (none))) else (none)) else (none))))
theorem tripartitelaw06_ChunkLists.mono_l : ∀ k, (∀ y0 y1 y2 y3 y4 y5 y6, LeO (tripartitelaw06_ChunkLists.j0 k y0 y1 y2 y3 y4 y5 y6) (tripartitelaw06_ChunkLists.j0 (k + 1) y0 y1 y2 y3 y4 y5 y6)) ∧ (∀ y0 y1 y2 y3 y4 y5 y6 y7 y8 y9, LeO (tripartitelaw06_ChunkLists.l0 k y0 y1 y2 y3 y4 y5 y6 y7 y8 y9) (tripartitelaw06_ChunkLists.l0 (k + 1) y0 y1 y2 y3 y4 y5 y6 y7 y8 y9)) ∧ (∀ y0 y1 y2 y3 y4 y5 y6 y7 y8 y9 y10 y11 y12 y13 y14, LeO (tripartitelaw06_ChunkLists.j2 k y0 y1 y2 y3 y4 y5 y6 y7 y8 y9 y10 y11 y12 y13 y14) (tripartitelaw06_ChunkLists.j2 (k + 1) y0 y1 y2 y3 y4 y5 y6 y7 y8 y9 y10 y11 y12 y13 y14))
 | 0 => ⟨fun _ _ _ _ _ _ _ r h => by simp [tripartitelaw06_ChunkLists.j0] at h, fun _ _ _ _ _ _ _ _ _ _ r h => by simp [tripartitelaw06_ChunkLists.l0] at h, fun _ _ _ _ _ _ _ _ _ _ _ _ _ _ _ r h => by simp [tripartitelaw06_ChunkLists.j2] at h⟩
 | k + 1 => by
  obtain ⟨ih0, ih1, ih2⟩ := tripartitelaw06_ChunkLists.mono_l k
  refine ⟨?_, ?_, ?_⟩
  ·intro y0 y1 y2 y3 y4 y5 y6
   unfold tripartitelaw06_ChunkLists.j0
   repeat' first
   | (with_reducible exact ih0 _ _ _ _ _ _ _)
   | (with_reducible exact ih1 _ _ _ _ _ _ _ _ _ _)
   | (with_reducible exact ih2 _ _ _ _ _ _ _ _ _ _ _ _ _ _ _)
   | (with_reducible exact chunk_Of.mono _ _ _ _ _ _)
   | (with_reducible exact tripartitelaw03_To.mono _ _)
   | (with_reducible exact tripartitelaw06_From.mono _ _)
   | (with_reducible exact tripartitelaw06_Same.mono _ _ _)
   | (with_reducible exact tripartitelaw06_told.mono _)
   | (with_reducible exact tripartiteref06_Of.mono _ _ _ _ _ _)
   | (with_reducible exact LeO.refl _)
   | (with_reducible exact LeO.none _)
   | (with_reducible refine LeO.ite ?_ ?_)
   | (with_reducible refine LeO.bind ?_ (fun _ => ?_))
   | exact ih0 _ _ _ _ _ _ _
   | exact ih1 _ _ _ _ _ _ _ _ _ _
   | exact ih2 _ _ _ _ _ _ _ _ _ _ _ _ _ _ _
   | exact chunk_Of.mono _ _ _ _ _ _
   | exact tripartitelaw03_To.mono _ _
   | exact tripartitelaw06_From.mono _ _
   | exact tripartitelaw06_Same.mono _ _ _
   | exact tripartitelaw06_told.mono _
   | exact tripartiteref06_Of.mono _ _ _ _ _ _
   | exact LeO.none _
   | refine LeO.ite ?_ ?_
   | refine LeO.bind ?_ (fun _ => ?_)
  ·intro y0 y1 y2 y3 y4 y5 y6 y7 y8 y9
   unfold tripartitelaw06_ChunkLists.l0
   repeat' first
   | (with_reducible exact ih0 _ _ _ _ _ _ _)
   | (with_reducible exact ih1 _ _ _ _ _ _ _ _ _ _)
   | (with_reducible exact ih2 _ _ _ _ _ _ _ _ _ _ _ _ _ _ _)
   | (with_reducible exact chunk_Of.mono _ _ _ _ _ _)
   | (with_reducible exact tripartitelaw03_To.mono _ _)
   | (with_reducible exact tripartitelaw06_From.mono _ _)
   | (with_reducible exact tripartitelaw06_Same.mono _ _ _)
   | (with_reducible exact tripartitelaw06_told.mono _)
   | (with_reducible exact tripartiteref06_Of.mono _ _ _ _ _ _)
   | (with_reducible exact LeO.refl _)
   | (with_reducible exact LeO.none _)
   | (with_reducible refine LeO.ite ?_ ?_)
   | (with_reducible refine LeO.bind ?_ (fun _ => ?_))
   | exact ih0 _ _ _ _ _ _ _
   | exact ih1 _ _ _ _ _ _ _ _ _ _
   | exact ih2 _ _ _ _ _ _ _ _ _ _ _ _ _ _ _
   | exact chunk_Of.mono _ _ _ _ _ _
   | exact tripartitelaw03_To.mono _ _
   | exact tripartitelaw06_From.mono _ _
   | exact tripartitelaw06_Same.mono _ _ _
   | exact tripartitelaw06_told.mono _
   | exact tripartiteref06_Of.mono _ _ _ _ _ _
   | exact LeO.none _
   | refine LeO.ite ?_ ?_
   | refine LeO.bind ?_ (fun _ => ?_)
  ·intro y0 y1 y2 y3 y4 y5 y6 y7 y8 y9 y10 y11 y12 y13 y14
   unfold tripartitelaw06_ChunkLists.j2
   repeat' first
   | (with_reducible exact ih0 _ _ _ _ _ _ _)
   | (with_reducible exact ih1 _ _ _ _ _ _ _ _ _ _)
   | (with_reducible exact ih2 _ _ _ _ _ _ _ _ _ _ _ _ _ _ _)
   | (with_reducible exact chunk_Of.mono _ _ _ _ _ _)
   | (with_reducible exact tripartitelaw03_To.mono _ _)
   | (with_reducible exact tripartitelaw06_From.mono _ _)
   | (with_reducible exact tripartitelaw06_Same.mono _ _ _)
   | (with_reducible exact tripartitelaw06_told.mono _)
   | (with_reducible exact tripartiteref06_Of.mono _ _ _ _ _ _)
   | (with_reducible exact LeO.refl _)
   | (with_reducible exact LeO.none _)
   | (with_reducible refine LeO.ite ?_ ?_)
   | (with_reducible refine LeO.bind ?_ (fun _ => ?_))
   | exact ih0 _ _ _ _ _ _ _
   | exact ih1 _ _ _ _ _ _ _ _ _ _
   | exact ih2 _ _ _ _ _ _ _ _ _ _ _ _ _ _ _
   | exact chunk_Of.mono _ _ _ _ _ _
   | exact tripartitelaw03_To.mono _ _
   | exact tripartitelaw06_From.mono _ _
   | exact tripartitelaw06_Same.mono _ _ _
   | exact tripartitelaw06_told.mono _
   | exact tripartiteref06_Of.mono _ _ _ _ _ _
   | exact LeO.none _
   | refine LeO.ite ?_ ?_
   | refine LeO.bind ?_ (fun _ => ?_)
theorem tripartitelaw06_ChunkLists.mono : ∀ a0 a1 a2 a3 a4 k, LeO (tripartitelaw06_ChunkLists.f k a0 a1 a2 a3 a4) (tripartitelaw06_ChunkLists.f (k + 1) a0 a1 a2 a3 a4) := by
 intro a0 a1 a2 a3 a4 k
 obtain ⟨ih0, ih1, ih2⟩ := tripartitelaw06_ChunkLists.mono_l k
 unfold tripartitelaw06_ChunkLists.f
 repeat' first
   | (with_reducible exact ih0 _ _ _ _ _ _ _)
   | (with_reducible exact ih1 _ _ _ _ _ _ _ _ _ _)
   | (with_reducible exact ih2 _ _ _ _ _ _ _ _ _ _ _ _ _ _ _)
   | (with_reducible exact chunk_Of.mono _ _ _ _ _ _)
   | (with_reducible exact tripartitelaw03_To.mono _ _)
   | (with_reducible exact tripartitelaw06_From.mono _ _)
   | (with_reducible exact tripartitelaw06_Same.mono _ _ _)
   | (with_reducible exact tripartitelaw06_told.mono _)
   | (with_reducible exact tripartiteref06_Of.mono _ _ _ _ _ _)
   | (with_reducible exact LeO.refl _)
   | (with_reducible exact LeO.none _)
   | (with_reducible refine LeO.ite ?_ ?_)
   | (with_reducible refine LeO.bind ?_ (fun _ => ?_))
   | exact ih0 _ _ _ _ _ _ _
   | exact ih1 _ _ _ _ _ _ _ _ _ _
   | exact ih2 _ _ _ _ _ _ _ _ _ _ _ _ _ _ _
   | exact chunk_Of.mono _ _ _ _ _ _
   | exact tripartitelaw03_To.mono _ _
   | exact tripartitelaw06_From.mono _ _
   | exact tripartitelaw06_Same.mono _ _ _
   | exact tripartitelaw06_told.mono _
   | exact tripartiteref06_Of.mono _ _ _ _ _ _
   | exact LeO.none _
   | refine LeO.ite ?_ ?_
   | refine LeO.bind ?_ (fun _ => ?_)
def tripartitelaw06_ChunkLists.T1 : Bool × List (List Nat × List Nat) := (true, [([], []), ([0], [0]), ([1], [1]), ([], []), ([3], [3]), ([4, 2], [4]), ([], []), ([6], [6]), ([7, 5], [7]), ([2, 8, 0, 1, 2], [2]), ([5, 9, 0, 1, 2, 3, 4, 5, 9], [5]), ([8, 10, 0, 1, 2, 3, 4, 5, 6, 7, 8, 9, 10], [8])])
def tripartitelaw06_ChunkLists.B1 : List Nat := [0, 1, 3, 0, 8, 31, 0, 64, 255, 511, 1023, 2047]
theorem tripartitelaw06_ChunkLists.tab1 : rtab .any (opsOf Try.f3 1) = tripartitelaw06_ChunkLists.T1 := by kernel_rfl
theorem tripartitelaw06_ChunkLists.bits1 : waitsOk tripartitelaw06_ChunkLists.T1.2 tripartitelaw06_ChunkLists.B1 = true := by kernel_rfl
def tripartitelaw06_ChunkLists.T2 : Bool × List (List Nat × List Nat) := (true, [([], []), ([], []), ([1], [1]), ([2], [2]), ([0, 3], [0, 3]), ([], []), ([], []), ([6], [6]), ([7], [7]), ([5, 8], [5, 8]), ([4, 0, 1, 2, 3, 4], [0, 1, 4]), ([9, 10, 0, 1, 2, 3, 4, 5, 6, 7, 8, 9, 10], [5, 6, 9])])
def tripartitelaw06_ChunkLists.B2 : List Nat := [0, 0, 2, 6, 15, 0, 0, 64, 192, 480, 31, 2047]
theorem tripartitelaw06_ChunkLists.tab2 : rtab .any (opsOf Try.f3 2) = tripartitelaw06_ChunkLists.T2 := by kernel_rfl
theorem tripartitelaw06_ChunkLists.bits2 : waitsOk tripartitelaw06_ChunkLists.T2.2 tripartitelaw06_ChunkLists.B2 = true := by kernel_rfl
def tripartitelaw06_ChunkLists.T13 : Bool × List (List Nat × List Nat) := (true, [([], []), ([], []), ([0, 1], [0, 1]), ([2], [2]), ([3], [3]), ([4, 4], [4]), ([], []), ([6, 5], [6]), ([5, 7], [5, 7]), ([8, 7], [8]), ([9], [9]), ([10, 9], [9, 10]), ([11, 9], [9, 11]), ([9], [9]), ([13, 9], [9, 13]), ([12, 14, 9], [9, 12, 14]), ([9, 15], [9, 15]), ([16, 9], [16]), ([17], [17]), ([18, 17], [17, 18]), ([19, 17], [17, 19]), ([17], [17]), ([21, 17], [17, 21]), ([20, 22, 17], [17, 20, 22]), ([17, 23], [17, 23]), ([24, 17], [24]), ([25], [25]), ([26, 25], [25, 26]), ([27, 25], [25, 27]), ([25], [25]), ([29, 25], [25, 29]), ([28, 30, 25], [25, 28, 30]), ([25, 31], [25, 31]), ([32, 25], [32]), ([33], [33]), ([34, 33], [33, 34]), ([35, 33, 33], [33, 35]), ([36], [36]), ([36], [36]), ([38, 36], [36, 38]), ([37, 39, 36], [36, 37, 39]), ([40, 36], [36, 40]), ([41, 36], [36, 41]), ([36], [36]), ([43, 36], [36, 43]), ([42, 44, 36], [36, 42, 44]), ([36, 45, 33], [33, 36, 45]), ([33, 46], [33, 46])])
def tripartitelaw06_ChunkLists.B13 : List Nat := [0, 0, 3, 7, 15, 31, 0, 127, 255, 511, 1023, 2047, 4095, 1023, 9215, 32767, 65535, 131071, 262143, 524287, 1048575, 262143, 2359295, 8388607, 16777215, 33554431, 67108863, 134217727, 268435455, 67108863, 603979775, 2147483647, 4294967295, 8589934591, 17179869183, 34359738367, 68719476735, 137438953471, 137438953471, 412316860415, 1099511627775, 2199023255551, 4398046511103, 137438953471, 8933531975679, 35184372088831, 70368744177663, 140737488355327]
theorem tripartitelaw06_ChunkLists.tab13 : rtab .any (opsOf Try.f3 13) = tripartitelaw06_ChunkLists.T13 := by kernel_rfl
theorem tripartitelaw06_ChunkLists.bits13 : waitsOk tripartitelaw06_ChunkLists.T13.2 tripartitelaw06_ChunkLists.B13 = true := by kernel_rfl
def tripartitelaw06_ChunkLists.T16 : Bool × List (List Nat × List Nat) := (true, [([], []), ([0], [0]), ([1], [1]), ([], []), ([3], [3]), ([4, 2], [4]), ([2, 5], [2, 5]), ([], []), ([7], [7]), ([8, 5], [8]), ([6, 9], [6, 9]), ([10], [10])])
def tripartitelaw06_ChunkLists.B16 : List Nat := [0, 1, 3, 0, 8, 31, 63, 0, 128, 447, 1023, 2047]
theorem tripartitelaw06_ChunkLists.tab16 : rtab .any (opsOf Try.f3 16) = tripartitelaw06_ChunkLists.T16 := by kernel_rfl
theorem tripartitelaw06_ChunkLists.bits16 : waitsOk tripartitelaw06_ChunkLists.T16.2 tripartitelaw06_ChunkLists.B16 = true := by kernel_rfl
set_option maxHeartbeats 8000000 in
set_option maxRecDepth 100000 in
theorem tripartitelaw06_ChunkLists.calls (k : Nat) (a0_0 : Int) (a0_1 : Int) (a0_2 : Int) (A1 : Option Addr) (c1 : Nat) (l1 : List (S65)) (A2 : Option Addr) (c2 : Nat) (l2 : List (S65)) (r : Bool) (w : World) (hr1 : Kd.C k65 w A1 l1.length l1) (hc1 : l1.length ≤ c1) (hr2 : Kd.C k65 w A2 l2.length l2) (hc2 : l2.length ≤ c2) (h : tripartitelaw06_ChunkLists.f k a0_0 a0_1 a0_2 l1 l2 = some r) :
  Calls Try.prog 3 #[.agg #[.int .i64 a0_0, .int .i64 a0_1, .int .i64 a0_2], .slice A1 l1.length c1, .slice A2 l2.length c2] w fun e w' => e = .returned (.bool r) ∧ Below w.heap.size w w' := by
 have hu22 := Try.underlying22
 have hu40 := Try.underlying40
 have hu38 := Try.underlying38
 have HR1 := Aside0.mk hr1
 have HC1 := Aside0.mk hc1
 clear hr1 hc1
 have HR2 := Aside0.mk hr2
 have HC2 := Aside0.mk hc2
 clear hr2 hc2
 have HB := Aside0.mk (Below.refl w.heap.size w)
 have H : ((tripartitelaw06_small.f a0_0).bind fun t237 => ((tripartitelaw06_small.f a0_1).bind fun t238 => ((tripartitelaw06_small.f a0_2).bind fun t239 => (if 0 ≤ (mn (l1.length : Int) 70) then (if (mn (l1.length : Int) 70) ≤ (l1.length : Int) then ((some (l1.take ((mn (l1.length : Int) 70) : Int).toNat : List (S65))).bind fun y240 => (if 0 ≤ (mn (l2.length : Int) 70) then (if (mn (l2.length : Int) 70) ≤ (l2.length : Int) then ((some (l2.take ((mn (l2.length : Int) 70) : Int).toNat : List (S65))).bind fun y244 => ((tripartitelaw03_To.f k y240).bind fun t248 => ((tripartitelaw03_To.f k y244).bind fun t251 => ((chunk_Of.f k t237 t238 t239 t248 t251).bind fun bt254 => ((tripartiteref06_Of.f k t237 t238 t239 y240 y244).bind fun bt258 => ((tripartitelaw03_To.f k y244).bind fun t262 => ((tripartitelaw03_To.f k y240).bind fun t265 => ((chunk_Of.f k t237 t239 t238 t262 t265).bind fun bt268 => ((tripartitelaw06_told.f k).bind fun t272 => (if t272 = true then (if ((bt254.2 == 0) != bt258.2) = true then (none) else (if bt254.2 = bt268.2 then (if bt258.2 = true then ((tripartitelaw06_From.f k bt254.1).bind fun t273 => ((tripartitelaw06_Same.f k t273 bt258.1).bind fun t276 => (if t276 = true then (tripartitelaw06_ChunkLists.j0 k t237 t238 t239 bt254.1 bt258.2 bt268.1 ((bt254.1.length : Int) != (bt268.1.length : Int))) else (none)))) else (if bt254.2 = 12 then ((tripartitelaw06_From.f k bt254.1).bind fun t277 => ((tripartitelaw06_Same.f k t277 bt258.1).bind fun t280 => (if t280 = true then (tripartitelaw06_ChunkLists.j0 k t237 t238 t239 bt254.1 bt258.2 bt268.1 ((bt254.1.length : Int) != (bt268.1.length : Int))) else (none)))) else (none))) else (none))) else (none))))))))))) else (none)) else (none))) else (none)) else (none))))) = some r := h
 clear h
 replace H := Option.bind_eq_some_iff.mp H
 obtain ⟨t237, A40, H⟩ := H
 replace H : ((tripartitelaw06_small.f a0_1).bind fun t238 => ((tripartitelaw06_small.f a0_2).bind fun t239 => (if 0 ≤ (mn (l1.length : Int) 70) then (if (mn (l1.length : Int) 70) ≤ (l1.length : Int) then ((some (l1.take ((mn (l1.length : Int) 70) : Int).toNat : List (S65))).bind fun y240 => (if 0 ≤ (mn (l2.length : Int) 70) then (if (mn (l2.length : Int) 70) ≤ (l2.length : Int) then ((some (l2.take ((mn (l2.length : Int) 70) : Int).toNat : List (S65))).bind fun y244 => ((tripartitelaw03_To.f k y240).bind fun t248 => ((tripartitelaw03_To.f k y244).bind fun t251 => ((chunk_Of.f k t237 t238 t239 t248 t251).bind fun bt254 => ((tripartiteref06_Of.f k t237 t238 t239 y240 y244).bind fun bt258 => ((tripartitelaw03_To.f k y244).bind fun t262 => ((tripartitelaw03_To.f k y240).bind fun t265 => ((chunk_Of.f k t237 t239 t238 t262 t265).bind fun bt268 => ((tripartitelaw06_told.f k).bind fun t272 => (if t272 = true then (if ((bt254.2 == 0) != bt258.2) = true then (none) else (if bt254.2 = bt268.2 then (if bt258.2 = true then ((tripartitelaw06_From.f k bt254.1).bind fun t273 => ((tripartitelaw06_Same.f k t273 bt258.1).bind fun t276 => (if t276 = true then (tripartitelaw06_ChunkLists.j0 k t237 t238 t239 bt254.1 bt258.2 bt268.1 ((bt254.1.length : Int) != (bt268.1.length : Int))) else (none)))) else (if bt254.2 = 12 then ((tripartitelaw06_From.f k bt254.1).bind fun t277 => ((tripartitelaw06_Same.f k t277 bt258.1).bind fun t280 => (if t280 = true then (tripartitelaw06_ChunkLists.j0 k t237 t238 t239 bt254.1 bt258.2 bt268.1 ((bt254.1.length : Int) != (bt268.1.length : Int))) else (none)))) else (none))) else (none))) else (none))))))))))) else (none)) else (none))) else (none)) else (none)))) = some r := H
 have A4 := Aside0.mk A40
 clear A40
 replace H := Option.bind_eq_some_iff.mp H
 obtain ⟨t238, A50, H⟩ := H
 replace H : ((tripartitelaw06_small.f a0_2).bind fun t239 => (if 0 ≤ (mn (l1.length : Int) 70) then (if (mn (l1.length : Int) 70) ≤ (l1.length : Int) then ((some (l1.take ((mn (l1.length : Int) 70) : Int).toNat : List (S65))).bind fun y240 => (if 0 ≤ (mn (l2.length : Int) 70) then (if (mn (l2.length : Int) 70) ≤ (l2.length : Int) then ((some (l2.take ((mn (l2.length : Int) 70) : Int).toNat : List (S65))).bind fun y244 => ((tripartitelaw03_To.f k y240).bind fun t248 => ((tripartitelaw03_To.f k y244).bind fun t251 => ((chunk_Of.f k t237 t238 t239 t248 t251).bind fun bt254 => ((tripartiteref06_Of.f k t237 t238 t239 y240 y244).bind fun bt258 => ((tripartitelaw03_To.f k y244).bind fun t262 => ((tripartitelaw03_To.f k y240).bind fun t265 => ((chunk_Of.f k t237 t239 t238 t262 t265).bind fun bt268 => ((tripartitelaw06_told.f k).bind fun t272 => (if t272 = true then (if ((bt254.2 == 0) != bt258.2) = true then (none) else (if bt254.2 = bt268.2 then (if bt258.2 = true then ((tripartitelaw06_From.f k bt254.1).bind fun t273 => ((tripartitelaw06_Same.f k t273 bt258.1).bind fun t276 => (if t276 = true then (tripartitelaw06_ChunkLists.j0 k t237 t238 t239 bt254.1 bt258.2 bt268.1 ((bt254.1.length : Int) != (bt268.1.length : Int))) else (none)))) else (if bt254.2 = 12 then ((tripartitelaw06_From.f k bt254.1).bind fun t277 => ((tripartitelaw06_Same.f k t277 bt258.1).bind fun t280 => (if t280 = true then (tripartitelaw06_ChunkLists.j0 k t237 t238 t239 bt254.1 bt258.2 bt268.1 ((bt254.1.length : Int) != (bt268.1.length : Int))) else (none)))) else (none))) else (none))) else (none))))))))))) else (none)) else (none))) else (none)) else (none))) = some r := H
 have A5 := Aside0.mk A50
 clear A50
 replace H := Option.bind_eq_some_iff.mp H
 obtain ⟨t239, A60, H⟩ := H
 replace H : (if 0 ≤ (mn (l1.length : Int) 70) then (if (mn (l1.length : Int) 70) ≤ (l1.length : Int) then ((some (l1.take ((mn (l1.length : Int) 70) : Int).toNat : List (S65))).bind fun y240 => (if 0 ≤ (mn (l2.length : Int) 70) then (if (mn (l2.length : Int) 70) ≤ (l2.length : Int) then ((some (l2.take ((mn (l2.length : Int) 70) : Int).toNat : List (S65))).bind fun y244 => ((tripartitelaw03_To.f k y240).bind fun t248 => ((tripartitelaw03_To.f k y244).bind fun t251 => ((chunk_Of.f k t237 t238 t239 t248 t251).bind fun bt254 => ((tripartiteref06_Of.f k t237 t238 t239 y240 y244).bind fun bt258 => ((tripartitelaw03_To.f k y244).bind fun t262 => ((tripartitelaw03_To.f k y240).bind fun t265 => ((chunk_Of.f k t237 t239 t238 t262 t265).bind fun bt268 => ((tripartitelaw06_told.f k).bind fun t272 => (if t272 = true then (if ((bt254.2 == 0) != bt258.2) = true then (none) else (if bt254.2 = bt268.2 then (if bt258.2 = true then ((tripartitelaw06_From.f k bt254.1).bind fun t273 => ((tripartitelaw06_Same.f k t273 bt258.1).bind fun t276 => (if t276 = true then (tripartitelaw06_ChunkLists.j0 k t237 t238 t239 bt254.1 bt258.2 bt268.1 ((bt254.1.length : Int) != (bt268.1.length : Int))) else (none)))) else (if bt254.2 = 12 then ((tripartitelaw06_From.f k bt254.1).bind fun t277 => ((tripartitelaw06_Same.f k t277 bt258.1).bind fun t280 => (if t280 = true then (tripartitelaw06_ChunkLists.j0 k t237 t238 t239 bt254.1 bt258.2 bt268.1 ((bt254.1.length : Int) != (bt268.1.length : Int))) else (none)))) else (none))) else (none))) else (none))))))))))) else (none)) else (none))) else (none)) else (none)) = some r := H
 have A6 := Aside0.mk A60
 clear A60
 obtain ⟨ji7, hji7⟩ : ∃ j_ : Int, (mn (l1.length : Int) 70) = j_ := ⟨_, rfl⟩
 replace H : (if 0 ≤ (ji7) then (if (ji7) ≤ (l1.length : Int) then ((some (l1.take ((ji7) : Int).toNat : List (S65))).bind fun y240 => (if 0 ≤ (mn (l2.length : Int) 70) then (if (mn (l2.length : Int) 70) ≤ (l2.length : Int) then ((some (l2.take ((mn (l2.length : Int) 70) : Int).toNat : List (S65))).bind fun y244 => ((tripartitelaw03_To.f k y240).bind fun t248 => ((tripartitelaw03_To.f k y244).bind fun t251 => ((chunk_Of.f k t237 t238 t239 t248 t251).bind fun bt254 => ((tripartiteref06_Of.f k t237 t238 t239 y240 y244).bind fun bt258 => ((tripartitelaw03_To.f k y244).bind fun t262 => ((tripartitelaw03_To.f k y240).bind fun t265 => ((chunk_Of.f k t237 t239 t238 t262 t265).bind fun bt268 => ((tripartitelaw06_told.f k).bind fun t272 => (if t272 = true then (if ((bt254.2 == 0) != bt258.2) = true then (none) else (if bt254.2 = bt268.2 then (if bt258.2 = true then ((tripartitelaw06_From.f k bt254.1).bind fun t273 => ((tripartitelaw06_Same.f k t273 bt258.1).bind fun t276 => (if t276 = true then (tripartitelaw06_ChunkLists.j0 k t237 t238 t239 bt254.1 bt258.2 bt268.1 ((bt254.1.length : Int) != (bt268.1.length : Int))) else (none)))) else (if bt254.2 = 12 then ((tripartitelaw06_From.f k bt254.1).bind fun t277 => ((tripartitelaw06_Same.f k t277 bt258.1).bind fun t280 => (if t280 = true then (tripartitelaw06_ChunkLists.j0 k t237 t238 t239 bt254.1 bt258.2 bt268.1 ((bt254.1.length : Int) != (bt268.1.length : Int))) else (none)))) else (none))) else (none))) else (none))))))))))) else (none)) else (none))) else (none)) else (none)) = some r := by first | (rw [hji7] at H; exact H) | (simp only [hji7] at H ⊢; exact H)
 (try rw [hji7] at A4)
 (try rw [hji7] at A5)
 (try rw [hji7] at A6)
 (try (have hji7h : ji7 ≤ 70 := by (rw [← hji7]; unfold mn; (repeat' split) <;> omega)))
 (try (have hji7g : ji7 ≤ 64 := by omega))
 (try (have hji7l : 0 ≤ ji7 := by (rw [← hji7]; unfold mn; (repeat' split) <;> omega)))
 (try (have hji7m : 0 ≤ ji7 := by omega))
 have hji7_ : (if 70 < (l1.length : Int) then 70 else (l1.length : Int)) = ji7 := hji7
 by_cases c8 : 0 ≤ (ji7)
 ·rw [if_pos c8] at H
  have c8b0 := eq_true c8
  have c8b1 : decide (0 ≤ (ji7)) = true := decide_eq_true c8
  clear c8
  by_cases c9 : (ji7) ≤ (l1.length : Int)
  ·rw [if_pos c9] at H
   have c9b0 := eq_true c9
   have c9b1 : decide ((ji7) ≤ (l1.length : Int)) = true := decide_eq_true c9
   clear c9
   obtain ⟨y240, hy240⟩ : ∃ y_ : List (S65), y_ = (l1.take ((ji7) : Int).toNat) := ⟨_, rfl⟩
   replace H : (if 0 ≤ (mn (l2.length : Int) 70) then (if (mn (l2.length : Int) 70) ≤ (l2.length : Int) then ((some (l2.take ((mn (l2.length : Int) 70) : Int).toNat : List (S65))).bind fun y244 => ((tripartitelaw03_To.f k y240).bind fun t248 => ((tripartitelaw03_To.f k y244).bind fun t251 => ((chunk_Of.f k t237 t238 t239 t248 t251).bind fun bt254 => ((tripartiteref06_Of.f k t237 t238 t239 y240 y244).bind fun bt258 => ((tripartitelaw03_To.f k y244).bind fun t262 => ((tripartitelaw03_To.f k y240).bind fun t265 => ((chunk_Of.f k t237 t239 t238 t262 t265).bind fun bt268 => ((tripartitelaw06_told.f k).bind fun t272 => (if t272 = true then (if ((bt254.2 == 0) != bt258.2) = true then (none) else (if bt254.2 = bt268.2 then (if bt258.2 = true then ((tripartitelaw06_From.f k bt254.1).bind fun t273 => ((tripartitelaw06_Same.f k t273 bt258.1).bind fun t276 => (if t276 = true then (tripartitelaw06_ChunkLists.j0 k t237 t238 t239 bt254.1 bt258.2 bt268.1 ((bt254.1.length : Int) != (bt268.1.length : Int))) else (none)))) else (if bt254.2 = 12 then ((tripartitelaw06_From.f k bt254.1).bind fun t277 => ((tripartitelaw06_Same.f k t277 bt258.1).bind fun t280 => (if t280 = true then (tripartitelaw06_ChunkLists.j0 k t237 t238 t239 bt254.1 bt258.2 bt268.1 ((bt254.1.length : Int) != (bt268.1.length : Int))) else (none)))) else (none))) else (none))) else (none))))))))))) else (none)) else (none)) = some r := by first | (rw [hy240]; with_reducible exact H) | (have H2_ := (Option.bind_some _ _).symm.trans H; rw [hy240]; with_reducible exact H2_) | (have H2_ := (Option.bind_some _ _).symm.trans H; with_reducible exact H2_) | with_reducible exact H | (rw [hy240]; exact H) | exact H
   have Ny240 := Aside0.mk hy240
   clear hy240
   obtain ⟨ji10, hji10⟩ : ∃ j_ : Int, (mn (l2.length : Int) 70) = j_ := ⟨_, rfl⟩
   replace H : (if 0 ≤ (ji10) then (if (ji10) ≤ (l2.length : Int) then ((some (l2.take ((ji10) : Int).toNat : List (S65))).bind fun y244 => ((tripartitelaw03_To.f k y240).bind fun t248 => ((tripartitelaw03_To.f k y244).bind fun t251 => ((chunk_Of.f k t237 t238 t239 t248 t251).bind fun bt254 => ((tripartiteref06_Of.f k t237 t238 t239 y240 y244).bind fun bt258 => ((tripartitelaw03_To.f k y244).bind fun t262 => ((tripartitelaw03_To.f k y240).bind fun t265 => ((chunk_Of.f k t237 t239 t238 t262 t265).bind fun bt268 => ((tripartitelaw06_told.f k).bind fun t272 => (if t272 = true then (if ((bt254.2 == 0) != bt258.2) = true then (none) else (if bt254.2 = bt268.2 then (if bt258.2 = true then ((tripartitelaw06_From.f k bt254.1).bind fun t273 => ((tripartitelaw06_Same.f k t273 bt258.1).bind fun t276 => (if t276 = true then (tripartitelaw06_ChunkLists.j0 k t237 t238 t239 bt254.1 bt258.2 bt268.1 ((bt254.1.length : Int) != (bt268.1.length : Int))) else (none)))) else (if bt254.2 = 12 then ((tripartitelaw06_From.f k bt254.1).bind fun t277 => ((tripartitelaw06_Same.f k t277 bt258.1).bind fun t280 => (if t280 = true then (tripartitelaw06_ChunkLists.j0 k t237 t238 t239 bt254.1 bt258.2 bt268.1 ((bt254.1.length : Int) != (bt268.1.length : Int))) else (none)))) else (none))) else (none))) else (none))))))))))) else (none)) else (none)) = some r := by first | (rw [hji10] at H; exact H) | (simp only [hji10] at H ⊢; exact H)
   (try rw [hji10] at A4)
   (try rw [hji10] at A5)
   (try rw [hji10] at A6)
   (try (have hji10h : ji10 ≤ 70 := by (rw [← hji10]; unfold mn; (repeat' split) <;> omega)))
   (try (have hji10g : ji10 ≤ 64 := by omega))
   (try (have hji10l : 0 ≤ ji10 := by (rw [← hji10]; unfold mn; (repeat' split) <;> omega)))
   (try (have hji10m : 0 ≤ ji10 := by omega))
   have hji10_ : (if 70 < (l2.length : Int) then 70 else (l2.length : Int)) = ji10 := hji10
   by_cases c11 : 0 ≤ (ji10)
   ·rw [if_pos c11] at H
    have c11b0 := eq_true c11
    have c11b1 : decide (0 ≤ (ji10)) = true := decide_eq_true c11
    clear c11
    by_cases c12 : (ji10) ≤ (l2.length : Int)
    ·rw [if_pos c12] at H
     have c12b0 := eq_true c12
     have c12b1 : decide ((ji10) ≤ (l2.length : Int)) = true := decide_eq_true c12
     clear c12
     obtain ⟨y244, hy244⟩ : ∃ y_ : List (S65), y_ = (l2.take ((ji10) : Int).toNat) := ⟨_, rfl⟩
     replace H : ((tripartitelaw03_To.f k y240).bind fun t248 => ((tripartitelaw03_To.f k y244).bind fun t251 => ((chunk_Of.f k t237 t238 t239 t248 t251).bind fun bt254 => ((tripartiteref06_Of.f k t237 t238 t239 y240 y244).bind fun bt258 => ((tripartitelaw03_To.f k y244).bind fun t262 => ((tripartitelaw03_To.f k y240).bind fun t265 => ((chunk_Of.f k t237 t239 t238 t262 t265).bind fun bt268 => ((tripartitelaw06_told.f k).bind fun t272 => (if t272 = true then (if ((bt254.2 == 0) != bt258.2) = true then (none) else (if bt254.2 = bt268.2 then (if bt258.2 = true then ((tripartitelaw06_From.f k bt254.1).bind fun t273 => ((tripartitelaw06_Same.f k t273 bt258.1).bind fun t276 => (if t276 = true then (tripartitelaw06_ChunkLists.j0 k t237 t238 t239 bt254.1 bt258.2 bt268.1 ((bt254.1.length : Int) != (bt268.1.length : Int))) else (none)))) else (if bt254.2 = 12 then ((tripartitelaw06_From.f k bt254.1).bind fun t277 => ((tripartitelaw06_Same.f k t277 bt258.1).bind fun t280 => (if t280 = true then (tripartitelaw06_ChunkLists.j0 k t237 t238 t239 bt254.1 bt258.2 bt268.1 ((bt254.1.length : Int) != (bt268.1.length : Int))) else (none)))) else (none))) else (none))) else (none)))))))))) = some r := by first | (rw [hy244]; with_reducible exact H) | (have H2_ := (Option.bind_some _ _).symm.trans H; rw [hy244]; with_reducible exact H2_) | (have H2_ := (Option.bind_some _ _).symm.trans H; with_reducible exact H2_) | with_reducible exact H | (rw [hy244]; exact H) | exact H
     have Ny244 := Aside0.mk hy244
     clear hy244
     replace H := Option.bind_eq_some_iff.mp H
     obtain ⟨t248, A130, H⟩ := H
     replace H : ((tripartitelaw03_To.f k y244).bind fun t251 => ((chunk_Of.f k t237 t238 t239 t248 t251).bind fun bt254 => ((tripartiteref06_Of.f k t237 t238 t239 y240 y244).bind fun bt258 => ((tripartitelaw03_To.f k y244).bind fun t262 => ((tripartitelaw03_To.f k y240).bind fun t265 => ((chunk_Of.f k t237 t239 t238 t262 t265).bind fun bt268 => ((tripartitelaw06_told.f k).bind fun t272 => (if t272 = true then (if ((bt254.2 == 0) != bt258.2) = true then (none) else (if bt254.2 = bt268.2 then (if bt258.2 = true then ((tripartitelaw06_From.f k bt254.1).bind fun t273 => ((tripartitelaw06_Same.f k t273 bt258.1).bind fun t276 => (if t276 = true then (tripartitelaw06_ChunkLists.j0 k t237 t238 t239 bt254.1 bt258.2 bt268.1 ((bt254.1.length : Int) != (bt268.1.length : Int))) else (none)))) else (if bt254.2 = 12 then ((tripartitelaw06_From.f k bt254.1).bind fun t277 => ((tripartitelaw06_Same.f k t277 bt258.1).bind fun t280 => (if t280 = true then (tripartitelaw06_ChunkLists.j0 k t237 t238 t239 bt254.1 bt258.2 bt268.1 ((bt254.1.length : Int) != (bt268.1.length : Int))) else (none)))) else (none))) else (none))) else (none))))))))) = some r := H
     have A13 := Aside0.mk A130
     clear A130
     replace H := Option.bind_eq_some_iff.mp H
     obtain ⟨t251, A140, H⟩ := H
     replace H : ((chunk_Of.f k t237 t238 t239 t248 t251).bind fun bt254 => ((tripartiteref06_Of.f k t237 t238 t239 y240 y244).bind fun bt258 => ((tripartitelaw03_To.f k y244).bind fun t262 => ((tripartitelaw03_To.f k y240).bind fun t265 => ((chunk_Of.f k t237 t239 t238 t262 t265).bind fun bt268 => ((tripartitelaw06_told.f k).bind fun t272 => (if t272 = true then (if ((bt254.2 == 0) != bt258.2) = true then (none) else (if bt254.2 = bt268.2 then (if bt258.2 = true then ((tripartitelaw06_From.f k bt254.1).bind fun t273 => ((tripartitelaw06_Same.f k t273 bt258.1).bind fun t276 => (if t276 = true then (tripartitelaw06_ChunkLists.j0 k t237 t238 t239 bt254.1 bt258.2 bt268.1 ((bt254.1.length : Int) != (bt268.1.length : Int))) else (none)))) else (if bt254.2 = 12 then ((tripartitelaw06_From.f k bt254.1).bind fun t277 => ((tripartitelaw06_Same.f k t277 bt258.1).bind fun t280 => (if t280 = true then (tripartitelaw06_ChunkLists.j0 k t237 t238 t239 bt254.1 bt258.2 bt268.1 ((bt254.1.length : Int) != (bt268.1.length : Int))) else (none)))) else (none))) else (none))) else (none)))))))) = some r := H
     have A14 := Aside0.mk A140
     clear A140
     replace H := Option.bind_eq_some_iff.mp H
     obtain ⟨⟨t254, t255⟩, A150, H⟩ := H
     replace H : ((tripartiteref06_Of.f k t237 t238 t239 y240 y244).bind fun bt258 => ((tripartitelaw03_To.f k y244).bind fun t262 => ((tripartitelaw03_To.f k y240).bind fun t265 => ((chunk_Of.f k t237 t239 t238 t262 t265).bind fun bt268 => ((tripartitelaw06_told.f k).bind fun t272 => (if t272 = true then (if ((t255 == 0) != bt258.2) = true then (none) else (if t255 = bt268.2 then (if bt258.2 = true then ((tripartitelaw06_From.f k t254).bind fun t273 => ((tripartitelaw06_Same.f k t273 bt258.1).bind fun t276 => (if t276 = true then (tripartitelaw06_ChunkLists.j0 k t237 t238 t239 t254 bt258.2 bt268.1 ((t254.length : Int) != (bt268.1.length : Int))) else (none)))) else (if t255 = 12 then ((tripartitelaw06_From.f k t254).bind fun t277 => ((tripartitelaw06_Same.f k t277 bt258.1).bind fun t280 => (if t280 = true then (tripartitelaw06_ChunkLists.j0 k t237 t238 t239 t254 bt258.2 bt268.1 ((t254.length : Int) != (bt268.1.length : Int))) else (none)))) else (none))) else (none))) else (none))))))) = some r := H
     have A15 := Aside0.mk A150
     clear A150
     replace H := Option.bind_eq_some_iff.mp H
     obtain ⟨⟨t258, t259⟩, A160, H⟩ := H
     replace H : ((tripartitelaw03_To.f k y244).bind fun t262 => ((tripartitelaw03_To.f k y240).bind fun t265 => ((chunk_Of.f k t237 t239 t238 t262 t265).bind fun bt268 => ((tripartitelaw06_told.f k).bind fun t272 => (if t272 = true then (if ((t255 == 0) != t259) = true then (none) else (if t255 = bt268.2 then (if t259 = true then ((tripartitelaw06_From.f k t254).bind fun t273 => ((tripartitelaw06_Same.f k t273 t258).bind fun t276 => (if t276 = true then (tripartitelaw06_ChunkLists.j0 k t237 t238 t239 t254 t259 bt268.1 ((t254.length : Int) != (bt268.1.length : Int))) else (none)))) else (if t255 = 12 then ((tripartitelaw06_From.f k t254).bind fun t277 => ((tripartitelaw06_Same.f k t277 t258).bind fun t280 => (if t280 = true then (tripartitelaw06_ChunkLists.j0 k t237 t238 t239 t254 t259 bt268.1 ((t254.length : Int) != (bt268.1.length : Int))) else (none)))) else (none))) else (none))) else (none)))))) = some r := H
     have A16 := Aside0.mk A160
     clear A160
     replace H := Option.bind_eq_some_iff.mp H
     obtain ⟨t262, A170, H⟩ := H
     replace H : ((tripartitelaw03_To.f k y240).bind fun t265 => ((chunk_Of.f k t237 t239 t238 t262 t265).bind fun bt268 => ((tripartitelaw06_told.f k).bind fun t272 => (if t272 = true then (if ((t255 == 0) != t259) = true then (none) else (if t255 = bt268.2 then (if t259 = true then ((tripartitelaw06_From.f k t254).bind fun t273 => ((tripartitelaw06_Same.f k t273 t258).bind fun t276 => (if t276 = true then (tripartitelaw06_ChunkLists.j0 k t237 t238 t239 t254 t259 bt268.1 ((t254.length : Int) != (bt268.1.length : Int))) else (none)))) else (if t255 = 12 then ((tripartitelaw06_From.f k t254).bind fun t277 => ((tripartitelaw06_Same.f k t277 t258).bind fun t280 => (if t280 = true then (tripartitelaw06_ChunkLists.j0 k t237 t238 t239 t254 t259 bt268.1 ((t254.length : Int) != (bt268.1.length : Int))) else (none)))) else (none))) else (none))) else (none))))) = some r := H
     have A17 := Aside0.mk A170
     clear A170
     replace H := Option.bind_eq_some_iff.mp H
     obtain ⟨t265, A180, H⟩ := H
     replace H : ((chunk_Of.f k t237 t239 t238 t262 t265).bind fun bt268 => ((tripartitelaw06_told.f k).bind fun t272 => (if t272 = true then (if ((t255 == 0) != t259) = true then (none) else (if t255 = bt268.2 then (if t259 = true then ((tripartitelaw06_From.f k t254).bind fun t273 => ((tripartitelaw06_Same.f k t273 t258).bind fun t276 => (if t276 = true then (tripartitelaw06_ChunkLists.j0 k t237 t238 t239 t254 t259 bt268.1 ((t254.length : Int) != (bt268.1.length : Int))) else (none)))) else (if t255 = 12 then ((tripartitelaw06_From.f k t254).bind fun t277 => ((tripartitelaw06_Same.f k t277 t258).bind fun t280 => (if t280 = true then (tripartitelaw06_ChunkLists.j0 k t237 t238 t239 t254 t259 bt268.1 ((t254.length : Int) != (bt268.1.length : Int))) else (none)))) else (none))) else (none))) else (none)))) = some r := H
     have A18 := Aside0.mk A180
     clear A180
     replace H := Option.bind_eq_some_iff.mp H
     obtain ⟨⟨t268, t269⟩, A190, H⟩ := H
     replace H : ((tripartitelaw06_told.f k).bind fun t272 => (if t272 = true then (if ((t255 == 0) != t259) = true then (none) else (if t255 = t269 then (if t259 = true then ((tripartitelaw06_From.f k t254).bind fun t273 => ((tripartitelaw06_Same.f k t273 t258).bind fun t276 => (if t276 = true then (tripartitelaw06_ChunkLists.j0 k t237 t238 t239 t254 t259 t268 ((t254.length : Int) != (t268.length : Int))) else (none)))) else (if t255 = 12 then ((tripartitelaw06_From.f k t254).bind fun t277 => ((tripartitelaw06_Same.f k t277 t258).bind fun t280 => (if t280 = true then (tripartitelaw06_ChunkLists.j0 k t237 t238 t239 t254 t259 t268 ((t254.length : Int) != (t268.length : Int))) else (none)))) else (none))) else (none))) else (none))) = some r := H
     have A19 := Aside0.mk A190
     clear A190
     have HC20 := Aside0.mk H
     clear H
     go_enter Try.func3, Try.ntmps3
     try go_wp2_with (first | ((with_reducible refine gate_dst (N := 3) rfl ?_); (try (refine gate_guard (by rfl) ?_; dsimp only)); refine box_event ?hg (N := 3) ?hd (cs := #[.int .i64 a0_0, .int .i64 a0_1, .int .i64 a0_2]) (t := 22) ?hr ?_; (case hd => rfl); (case hg => rfl); (case hr => first | (go_simp; done) | (go_simp; rfl)); intro gb236 hg w21 hbox hb; have n0_ := Aside0.mk (below_step (by repeat (first | (with_reducible first | exact HB.out | apply below_alloc | apply pw_below_drewN | apply below_drew1) | exact HB.out)) hb); have n1_ := Aside0.mk (hbox); have n2_ := Aside0.mk ((by rw [hg]; exact (below_size (by repeat (first | (with_reducible first | exact HB.out | apply below_alloc | apply pw_below_drewN | apply below_drew1) | exact HB.out))) : w.heap.size ≤ gb236)); have n3_ := Aside0.mk ((by rw [hg]; exact (below_size (by repeat (first | (with_reducible first | exact HB.out | apply below_alloc | apply pw_below_drewN | apply below_drew1) | exact HB.out))) : w.heap.size ≤ gb236)); clear HB; have HB := n0_; have BK236 := n1_; have GW236 := n2_; have GE236 := n3_; clear n0_ n1_ n2_ n3_; clear hb hbox hg))
     have n0_ := Aside0.mk (blk_drew BK236.out)
     have n1_ := Aside0.mk (below_drew1 HB.out)
     clear BK236
     clear HB
     have BK236 := n0_
     have HB := n1_
     clear n0_ n1_
     refine start_ (n := 12) (S := fun w' => w'.cell? ⟨gb236, 0, none⟩ = some (.int .i64 a0_0) ∧ w'.cell? ⟨gb236, 1, none⟩ = some (.int .i64 a0_1) ∧ w'.cell? ⟨gb236, 2, none⟩ = some (.int .i64 a0_2)) (ds := []) #[false, false, false, false, false, false, false, false, false, false, false, false] (by kernel_rfl) rfl rfl ⟨(blk_cell BK236.out 0).trans rfl, (blk_cell BK236.out 1).trans rfl, (blk_cell BK236.out 2).trans rfl⟩ (fun hHeld => ?_); refine with_tabW tripartitelaw06_ChunkLists.tab1 tripartitelaw06_ChunkLists.bits1 (fun HT_ HW_ => ?_)
     generalize w21.drew = w22 at BK236 HB hHeld ⊢
     refine pure_ (i := 0) (N := some 19) (v := ?_) (a' := ?_) #[true, false, false, false, false, false, false, false, false, false, false, false] rfl rfl (any_of HT_.out (by kernel_rfl)) (fun _ _ _ h => h) (Or.inl ⟨by rfl, ?_⟩) ?_ ?_
     rotate_left
     ·intro w'
      go_simp
      with_reducible rfl
     rotate_left
     ·simp only [Act.put, List.setIfInBounds_toArray, List.set_cons_zero, List.set_cons_succ, i64_w, i32_w]
      rfl
     refine pure_ (i := 3) (N := some 22) (v := ?_) (a' := ?_) #[true, false, false, true, false, false, false, false, false, false, false, false] rfl rfl (any_of HT_.out (by kernel_rfl)) (fun _ _ _ h => h) (Or.inl ⟨by rfl, ?_⟩) ?_ ?_
     rotate_left
     ·intro w'
      go_simp
      with_reducible rfl
     rotate_left
     ·simp only [Act.put, List.setIfInBounds_toArray, List.set_cons_zero, List.set_cons_succ, i64_w, i32_w]
      rfl
     refine pure_ (i := 6) (N := some 25) (v := ?_) (a' := ?_) #[true, false, false, true, false, false, true, false, false, false, false, false] rfl rfl (any_of HT_.out (by kernel_rfl)) (fun _ _ _ h => h) (Or.inl ⟨by rfl, ?_⟩) ?_ ?_
     rotate_left
     ·intro w'
      go_simp
      with_reducible rfl
     rotate_left
     ·simp only [Act.put, List.setIfInBounds_toArray, List.set_cons_zero, List.set_cons_succ, i64_w, i32_w]
      rfl
     refine take_ (i := 1) (N := some 20) (v := ?_) (a' := ?_) #[true, true, false, true, false, false, true, false, false, false, false, false] rfl rfl (take_ofW HT_.out HW_.out (by kernel_rfl)) (fun _ _ _ h => h) (Or.inl ⟨by rfl, ?_⟩) hHeld ?_ ?_
     rotate_left
     ·rintro w' ⟨s0, s1, s2⟩
      go_simp
      with_reducible rfl
     rotate_left
     ·simp only [Act.put, List.setIfInBounds_toArray, List.set_cons_zero, List.set_cons_succ, i64_w, i32_w]
      rfl
     refine take_ (i := 4) (N := some 23) (v := ?_) (a' := ?_) #[true, true, false, true, true, false, true, false, false, false, false, false] rfl rfl (take_ofW HT_.out HW_.out (by kernel_rfl)) (fun _ _ _ h => h) (Or.inl ⟨by rfl, ?_⟩) hHeld ?_ ?_
     rotate_left
     ·rintro w' ⟨s0, s1, s2⟩
      go_simp
      with_reducible rfl
     rotate_left
     ·simp only [Act.put, List.setIfInBounds_toArray, List.set_cons_zero, List.set_cons_succ, i64_w, i32_w]
      rfl
     refine take_ (i := 7) (N := some 26) (v := ?_) (a' := ?_) #[true, true, false, true, true, false, true, true, false, false, false, false] rfl rfl (take_ofW HT_.out HW_.out (by kernel_rfl)) (fun _ _ _ h => h) (Or.inl ⟨by rfl, ?_⟩) hHeld ?_ ?_
     rotate_left
     ·rintro w' ⟨s0, s1, s2⟩
      go_simp
      with_reducible rfl
     rotate_left
     ·simp only [Act.put, List.setIfInBounds_toArray, List.set_cons_zero, List.set_cons_succ, i64_w, i32_w]
      rfl
     refine one_ (i := 2) (N := some 21) #[true, true, true, true, true, false, true, true, false, false, false, false] rfl rfl (one_of HT_.out (by kernel_rfl)) (by decide) (fun K hK => ?_)
     refine goes_ Try.func5 (by kernel_rfl) rfl #[.int .i64 a0_0] (by rfl) rfl rfl (by (try simp only [List.map_toArray, List.map_cons, List.map_nil]); first | done | rfl | (simp only [List.length_drop, List.length_take]; rfl)) ?_
     with_reducible refine (tripartitelaw06_small.calls a0_0 t237 _ A4.out).mono ?_
     rintro e w23 ⟨rfl, hb⟩
     refine ⟨_, rfl, ?_⟩
     have n0_ := Aside0.mk (blk_below (g := gb236) (o := .cells #[.int .i64 a0_0, .int .i64 a0_1, .int .i64 a0_2] 22 (0, 0)) (by (with_reducible repeat (first | refine blk_drewN ?_ _ | refine blk_drew ?_ | refine blk_alloc ?_ _)); exact BK236.out) hb)
     have n1_ := Aside0.mk (below_step (by repeat (first | (with_reducible first | exact HB.out | apply below_alloc | apply pw_below_drewN | apply below_drew1 | refine below_set ?_ GE236.out) | exact HB.out)) hb)
     clear BK236
     clear HB
     have BK236 := n0_
     have HB := n1_
     clear n0_ n1_
     refine hK.out _ _ ⟨(blk_cell BK236.out 0).trans rfl, (blk_cell BK236.out 1).trans rfl, (blk_cell BK236.out 2).trans rfl⟩ (fun hHeld => ?_)
     clear hK K
     refine norm_ (a' := ?_) ?_ ?_
     rotate_left
     ·show Act.put _ (some 21) _ = _
      simp only [Act.put, List.setIfInBounds_toArray, List.set_cons_zero, List.set_cons_succ, i64_w, i32_w]
      rfl
     refine one_ (i := 5) (N := some 24) #[true, true, true, true, true, true, true, true, false, false, false, false] rfl rfl (one_of HT_.out (by kernel_rfl)) (by decide) (fun K hK => ?_)
     refine goes_ Try.func5 (by kernel_rfl) rfl #[.int .i64 a0_1] (by rfl) rfl rfl (by (try simp only [List.map_toArray, List.map_cons, List.map_nil]); first | done | rfl | (simp only [List.length_drop, List.length_take]; rfl)) ?_
     with_reducible refine (tripartitelaw06_small.calls a0_1 t238 _ A5.out).mono ?_
     rintro e w24 ⟨rfl, hb⟩
     refine ⟨_, rfl, ?_⟩
     have n0_ := Aside0.mk (blk_below (g := gb236) (o := .cells #[.int .i64 a0_0, .int .i64 a0_1, .int .i64 a0_2] 22 (0, 0)) (by (with_reducible repeat (first | refine blk_drewN ?_ _ | refine blk_drew ?_ | refine blk_alloc ?_ _)); exact BK236.out) hb)
     have n1_ := Aside0.mk (below_step (by repeat (first | (with_reducible first | exact HB.out | apply below_alloc | apply pw_below_drewN | apply below_drew1 | refine below_set ?_ GE236.out) | exact HB.out)) hb)
     clear BK236
     clear HB
     have BK236 := n0_
     have HB := n1_
     clear n0_ n1_
     refine hK.out _ _ ⟨(blk_cell BK236.out 0).trans rfl, (blk_cell BK236.out 1).trans rfl, (blk_cell BK236.out 2).trans rfl⟩ (fun hHeld => ?_)
     clear hK K
     refine norm_ (a' := ?_) ?_ ?_
     rotate_left
     ·show Act.put _ (some 24) _ = _
      simp only [Act.put, List.setIfInBounds_toArray, List.set_cons_zero, List.set_cons_succ, i64_w, i32_w]
      rfl
     refine one_ (i := 8) (N := some 27) #[true, true, true, true, true, true, true, true, true, false, false, false] rfl rfl (one_of HT_.out (by kernel_rfl)) (by decide) (fun K hK => ?_)
     refine goes_ Try.func5 (by kernel_rfl) rfl #[.int .i64 a0_2] (by rfl) rfl rfl (by (try simp only [List.map_toArray, List.map_cons, List.map_nil]); first | done | rfl | (simp only [List.length_drop, List.length_take]; rfl)) ?_
     with_reducible refine (tripartitelaw06_small.calls a0_2 t239 _ A6.out).mono ?_
     rintro e w25 ⟨rfl, hb⟩
     refine ⟨_, rfl, ?_⟩
     have n0_ := Aside0.mk (blk_below (g := gb236) (o := .cells #[.int .i64 a0_0, .int .i64 a0_1, .int .i64 a0_2] 22 (0, 0)) (by (with_reducible repeat (first | refine blk_drewN ?_ _ | refine blk_drew ?_ | refine blk_alloc ?_ _)); exact BK236.out) hb)
     have n1_ := Aside0.mk (below_step (by repeat (first | (with_reducible first | exact HB.out | apply below_alloc | apply pw_below_drewN | apply below_drew1 | refine below_set ?_ GE236.out) | exact HB.out)) hb)
     clear BK236
     clear HB
     have BK236 := n0_
     have HB := n1_
     clear n0_ n1_
     refine hK.out _ _ ⟨(blk_cell BK236.out 0).trans rfl, (blk_cell BK236.out 1).trans rfl, (blk_cell BK236.out 2).trans rfl⟩ (fun hHeld => ?_)
     clear hK K
     refine norm_ (a' := ?_) ?_ ?_
     rotate_left
     ·show Act.put _ (some 27) _ = _
      simp only [Act.put, List.setIfInBounds_toArray, List.set_cons_zero, List.set_cons_succ, i64_w, i32_w]
      rfl
     refine pure_ (i := 9) (N := some 7) (v := ?_) (a' := ?_) #[true, true, true, true, true, true, true, true, true, true, false, false] rfl rfl (any_of HT_.out (by kernel_rfl)) (fun _ _ _ h => h) (Or.inl ⟨by rfl, ?_⟩) ?_ ?_
     rotate_left
     ·intro w'
      go_simp
      with_reducible rfl
     rotate_left
     ·simp only [Act.put, List.setIfInBounds_toArray, List.set_cons_zero, List.set_cons_succ, i64_w, i32_w]
      rfl
     refine pure_ (i := 10) (N := some 8) (v := ?_) (a' := ?_) #[true, true, true, true, true, true, true, true, true, true, true, false] rfl rfl (any_of HT_.out (by kernel_rfl)) (fun _ _ _ h => h) (Or.inl ⟨by rfl, ?_⟩) ?_ ?_
     rotate_left
     ·intro w'
      go_simp
      with_reducible rfl
     rotate_left
     ·simp only [Act.put, List.setIfInBounds_toArray, List.set_cons_zero, List.set_cons_succ, i64_w, i32_w]
      rfl
     refine pure_ (i := 11) (N := some 9) (v := ?_) (a' := ?_) #[true, true, true, true, true, true, true, true, true, true, true, true] rfl rfl (any_of HT_.out (by kernel_rfl)) (fun _ _ _ h => h) (Or.inl ⟨by rfl, ?_⟩) ?_ ?_
     rotate_left
     ·intro w'
      go_simp
      with_reducible rfl
     rotate_left
     ·simp only [Act.put, List.setIfInBounds_toArray, List.set_cons_zero, List.set_cons_succ, i64_w, i32_w]
      rfl
     refine done_ (done_of HT_.out (by kernel_rfl)) ?_
     try go_wp2
     have n0_ := Aside0.mk (blk_drew BK236.out)
     have n1_ := Aside0.mk (below_drew1 HB.out)
     clear BK236
     clear HB
     have BK236 := n0_
     have HB := n1_
     clear n0_ n1_
     have q27 : ((ji7) : Int) ≤ ((l1.length : Int) : Int) := of_decide_eq_true (by first | (with_reducible assumption) | assumption)
     obtain ⟨i027, hi027, _, hsz27, _⟩ := info_parts info65
     have hroom27 : l1.length ≤ c1 := HC1.out
     have hC27 : Kd.C k65 _ A1 l1.length l1 := HR1.out
     have hcut27 := cut_to (P := Try.prog) 23 65 .i64 Try.underlying23 hi027 A1 l1.length c1 (ji7) (of_decide_eq_true (by first | (with_reducible assumption) | assumption)) q27 hroom27
     have hr27 := Kd.C_take (m := ((ji7) : Int).toNat) hC27 (by omega)
     have hy27 : y240.length = ((ji7) : Int).toNat := (by rw [Ny240.out, List.length_take]; omega)
     rw [← Ny240.out] at hr27
     rw [← hy27] at hcut27
     have HR243 := Aside0.mk hr27
     have HC243 := Aside0.mk (show y240.length ≤ c1 from by omega)
     clear hr27 hC27 hroom27 hi027 hsz27
     have KY27 := Aside0.mk hy27
     clear hy27
     replace q27 := eq_true q27
     have q28 : ((ji10) : Int) ≤ ((l2.length : Int) : Int) := of_decide_eq_true (by first | (with_reducible assumption) | assumption)
     obtain ⟨i028, hi028, _, hsz28, _⟩ := info_parts info65
     have hroom28 : l2.length ≤ c2 := HC2.out
     have hC28 : Kd.C k65 _ A2 l2.length l2 := HR2.out
     have hcut28 := cut_to (P := Try.prog) 23 65 .i64 Try.underlying23 hi028 A2 l2.length c2 (ji10) (of_decide_eq_true (by first | (with_reducible assumption) | assumption)) q28 hroom28
     have hr28 := Kd.C_take (m := ((ji10) : Int).toNat) hC28 (by omega)
     have hy28 : y244.length = ((ji10) : Int).toNat := (by rw [Ny244.out, List.length_take]; omega)
     rw [← Ny244.out] at hr28
     rw [← hy28] at hcut28
     have HR247 := Aside0.mk hr28
     have HC247 := Aside0.mk (show y244.length ≤ c2 from by omega)
     clear hr28 hC28 hroom28 hi028 hsz28
     have KY28 := Aside0.mk hy28
     clear hy28
     replace q28 := eq_true q28
     refine start_ (n := 12) (S := fun w' => True) (ds := []) #[false, false, false, false, false, false, false, false, false, false, false, false] (by kernel_rfl) rfl rfl trivial (fun hHeld => ?_); refine with_tabW tripartitelaw06_ChunkLists.tab2 tripartitelaw06_ChunkLists.bits2 (fun HT_ HW_ => ?_)
     generalize w25.drew = w26 at BK236 HB HR243 HR247 hHeld ⊢
     refine pure_ (i := 0) (N := some 28) (v := ?_) (a' := ?_) #[true, false, false, false, false, false, false, false, false, false, false, false] rfl rfl (any_of HT_.out (by kernel_rfl)) (fun _ _ _ h => h) (Or.inl ⟨by rfl, ?_⟩) ?_ ?_
     rotate_left
     ·intro w'
      go_simp
      with_reducible rfl
     rotate_left
     ·simp only [Act.put, List.setIfInBounds_toArray, List.set_cons_zero, List.set_cons_succ, i64_w, i32_w]
      rfl
     refine pure_ (i := 1) (N := some 29) (v := ?_) (a' := ?_) #[true, true, false, false, false, false, false, false, false, false, false, false] rfl rfl (any_of HT_.out (by kernel_rfl)) (fun _ _ _ h => h) (Or.inl ⟨by rfl, ?_⟩) ?_ ?_
     rotate_left
     ·intro w'
      go_simp
      with_reducible rfl
     rotate_left
     ·simp only [Act.put, List.setIfInBounds_toArray, List.set_cons_zero, List.set_cons_succ, i64_w, i32_w]
      rfl
     refine pure_ (i := 2) (N := some 30) (v := ?_) (a' := ?_) #[true, true, true, false, false, false, false, false, false, false, false, false] rfl rfl (any_of HT_.out (by kernel_rfl)) (fun _ _ _ h => h) (Or.inl ⟨by rfl, ?_⟩) ?_ ?_
     rotate_left
     ·intro w'
      go_simp
      with_reducible rfl
     rotate_left
     ·simp only [Act.put, List.setIfInBounds_toArray, List.set_cons_zero, List.set_cons_succ, i64_w, i32_w]
      rfl
     refine pure_ (i := 3) (N := some 31) (v := ?_) (a' := ?_) #[true, true, true, true, false, false, false, false, false, false, false, false] rfl rfl (any_of HT_.out (by kernel_rfl)) (fun _ _ _ h => h) (Or.inl ⟨by rfl, ?_⟩) ?_ ?_
     rotate_left
     ·intro w'
      go_simp
      with_reducible rfl
     rotate_left
     ·simp only [Act.put, List.setIfInBounds_toArray, List.set_cons_zero, List.set_cons_succ, i64_w, i32_w]
      rfl
     refine pure_ (i := 4) (N := some 32) (v := ?_) (a' := ?_) #[true, true, true, true, true, false, false, false, false, false, false, false] rfl rfl (any_of HT_.out (by kernel_rfl)) (fun _ _ _ h => h) (Or.inl ⟨by rfl, ?_⟩) ?_ ?_
     rotate_left
     ·intro w'
      go_simp
      with_reducible rfl
     rotate_left
     ·simp only [Act.put, List.setIfInBounds_toArray, List.set_cons_zero, List.set_cons_succ, i64_w, i32_w]
      rfl
     refine pure_ (i := 5) (N := some 33) (v := ?_) (a' := ?_) #[true, true, true, true, true, true, false, false, false, false, false, false] rfl rfl (any_of HT_.out (by kernel_rfl)) (fun _ _ _ h => h) (Or.inl ⟨by rfl, ?_⟩) ?_ ?_
     rotate_left
     ·intro w'
      go_simp
      with_reducible rfl
     rotate_left
     ·simp only [Act.put, List.setIfInBounds_toArray, List.set_cons_zero, List.set_cons_succ, i64_w, i32_w]
      rfl
     refine pure_ (i := 6) (N := some 34) (v := ?_) (a' := ?_) #[true, true, true, true, true, true, true, false, false, false, false, false] rfl rfl (any_of HT_.out (by kernel_rfl)) (fun _ _ _ h => h) (Or.inl ⟨by rfl, ?_⟩) ?_ ?_
     rotate_left
     ·intro w'
      go_simp
      with_reducible rfl
     rotate_left
     ·simp only [Act.put, List.setIfInBounds_toArray, List.set_cons_zero, List.set_cons_succ, i64_w, i32_w]
      rfl
     refine pure_ (i := 7) (N := some 35) (v := ?_) (a' := ?_) #[true, true, true, true, true, true, true, true, false, false, false, false] rfl rfl (any_of HT_.out (by kernel_rfl)) (fun _ _ _ h => h) (Or.inl ⟨by rfl, ?_⟩) ?_ ?_
     rotate_left
     ·intro w'
      go_simp
      with_reducible rfl
     rotate_left
     ·simp only [Act.put, List.setIfInBounds_toArray, List.set_cons_zero, List.set_cons_succ, i64_w, i32_w]
      rfl
     refine pure_ (i := 8) (N := some 36) (v := ?_) (a' := ?_) #[true, true, true, true, true, true, true, true, true, false, false, false] rfl rfl (any_of HT_.out (by kernel_rfl)) (fun _ _ _ h => h) (Or.inl ⟨by rfl, ?_⟩) ?_ ?_
     rotate_left
     ·intro w'
      go_simp
      with_reducible rfl
     rotate_left
     ·simp only [Act.put, List.setIfInBounds_toArray, List.set_cons_zero, List.set_cons_succ, i64_w, i32_w]
      rfl
     refine pure_ (i := 9) (N := some 37) (v := ?_) (a' := ?_) #[true, true, true, true, true, true, true, true, true, true, false, false] rfl rfl (any_of HT_.out (by kernel_rfl)) (fun _ _ _ h => h) (Or.inl ⟨by rfl, ?_⟩) ?_ ?_
     rotate_left
     ·intro w'
      go_simp
      with_reducible rfl
     rotate_left
     ·simp only [Act.put, List.setIfInBounds_toArray, List.set_cons_zero, List.set_cons_succ, i64_w, i32_w]
      rfl
     refine pure_ (i := 10) (N := some 1) (v := ?_) (a' := ?_) #[true, true, true, true, true, true, true, true, true, true, true, false] rfl rfl (any_of HT_.out (by kernel_rfl)) (fun _ _ _ h => h) (Or.inl ⟨by rfl, ?_⟩) ?_ ?_
     rotate_left
     ·intro w'
      go_simp
      with_reducible rfl
     rotate_left
     ·simp only [Act.put, List.setIfInBounds_toArray, List.set_cons_zero, List.set_cons_succ, i64_w, i32_w]
      rfl
     refine pure_ (i := 11) (N := some 2) (v := ?_) (a' := ?_) #[true, true, true, true, true, true, true, true, true, true, true, true] rfl rfl (any_of HT_.out (by kernel_rfl)) (fun _ _ _ h => h) (Or.inl ⟨by rfl, ?_⟩) ?_ ?_
     rotate_left
     ·intro w'
      go_simp
      with_reducible rfl
     rotate_left
     ·simp only [Act.put, List.setIfInBounds_toArray, List.set_cons_zero, List.set_cons_succ, i64_w, i32_w]
      rfl
     refine done_ (done_of HT_.out (by kernel_rfl)) ?_
     go_upto_region 6 with (first | ((with_reducible refine gate_callee (f := 7) rfl ?_); refine goesL_ (some 43) rfl rfl Try.func7 (by kernel_rfl) rfl #[.slice A1 y240.length c1] rfl (by (try simp only [List.map_toArray, List.map_cons, List.map_nil]); first | done | rfl | (simp only [List.length_drop, List.length_take]; rfl)) ?_; (with_reducible refine (tripartitelaw03_To.calls k _ _ y240 t248 _ ?side1 ?side2 A13.out).mono ?_); (case side1 => repeat (first | exact (Kd.C_below HR243.out HB.out) | (with_reducible refine Kd.C_alloc ?_ _) | (with_reducible refine Kd.C_drewN ?_ _) | (with_reducible refine Kd.C_drew ?_))); (case side2 => exact HC243.out); rintro e w29 ⟨v249, rfl, ho0, hb⟩; refine ⟨_, rfl, ?_⟩; have n0_ := Aside0.mk (Kd.R_lower ho0 (below_size (by repeat (first | (with_reducible first | exact HB.out | apply below_alloc | apply pw_below_drewN | apply below_drew1 | refine below_set ?_ GE236.out) | exact HB.out)))); have n1_ := Aside0.mk (blk_below (g := gb236) (o := .cells #[.int .i64 a0_0, .int .i64 a0_1, .int .i64 a0_2] 22 (0, 0)) (by (with_reducible repeat (first | refine blk_drewN ?_ _ | refine blk_drew ?_ | refine blk_alloc ?_ _)); exact BK236.out) hb); have n2_ := Aside0.mk (below_step (by repeat (first | (with_reducible first | exact HB.out | apply below_alloc | apply pw_below_drewN | apply below_drew1 | refine below_set ?_ GE236.out) | exact HB.out)) hb); clear BK236; clear HB; have HO250 := n0_; have BK236 := n1_; have HB := n2_; clear n0_ n1_ n2_; (try clear hb); (try clear hb2); (try clear hk); (try clear hi); (try clear ho0)) | ((with_reducible refine gate_callee (f := 7) rfl ?_); refine goesL_ (some 45) rfl rfl Try.func7 (by kernel_rfl) rfl #[.slice A2 y244.length c2] rfl (by (try simp only [List.map_toArray, List.map_cons, List.map_nil]); first | done | rfl | (simp only [List.length_drop, List.length_take]; rfl)) ?_; (with_reducible refine (tripartitelaw03_To.calls k _ _ y244 t251 _ ?side1 ?side2 A14.out).mono ?_); (case side1 => repeat (first | exact (Kd.C_below HR247.out HB.out) | (with_reducible refine Kd.C_alloc ?_ _) | (with_reducible refine Kd.C_drewN ?_ _) | (with_reducible refine Kd.C_drew ?_))); (case side2 => exact HC247.out); rintro e w30 ⟨v252, rfl, ho0, hb⟩; refine ⟨_, rfl, ?_⟩; have n0_ := Aside0.mk (Kd.R_elder' (by (with_reducible repeat (first | apply Kd.R_alloc | apply Kd.R_drewN | apply Kd.R_drew)); exact HO250.out) (Kd.R_base ho0) hb); have n1_ := Aside0.mk (Kd.R_lower (Kd.R_new' ho0 (Kd.R_lt (by (with_reducible repeat (first | apply Kd.R_alloc | apply Kd.R_drewN | apply Kd.R_drew)); exact HO250.out))) (below_size (by repeat (first | (with_reducible first | exact HB.out | apply below_alloc | apply pw_below_drewN | apply below_drew1 | refine below_set ?_ GE236.out) | exact HB.out)))); have n2_ := Aside0.mk (blk_below (g := gb236) (o := .cells #[.int .i64 a0_0, .int .i64 a0_1, .int .i64 a0_2] 22 (0, 0)) (by (with_reducible repeat (first | refine blk_drewN ?_ _ | refine blk_drew ?_ | refine blk_alloc ?_ _)); exact BK236.out) hb); have n3_ := Aside0.mk (below_step (by repeat (first | (with_reducible first | exact HB.out | apply below_alloc | apply pw_below_drewN | apply below_drew1 | refine below_set ?_ GE236.out) | exact HB.out)) hb); clear HO250; clear BK236; clear HB; have HO250 := n0_; have HO253 := n1_; have BK236 := n2_; have HB := n3_; clear n0_ n1_ n2_ n3_; (try clear hb); (try clear hb2); (try clear hk); (try clear hi); (try clear ho0); obtain ⟨Ao31, co31, eo31⟩ := Kd.R_slice HO250.out; subst eo31; obtain ⟨Ao32, co32, eo32⟩ := Kd.R_slice HO253.out; subst eo32) | ((with_reducible refine gate_callee (f := 6) rfl ?_); refine goesL_ (some 46) rfl rfl Try.func6 (by kernel_rfl) rfl #[.int .i64 t237, .int .i64 t238, .int .i64 t239, .slice Ao31 t248.length co31, .slice Ao32 t251.length co32] rfl (by (try simp only [List.map_toArray, List.map_cons, List.map_nil]); first | done | rfl | (simp only [List.length_drop, List.length_take]; rfl)) ?_; (with_reducible refine (chunk_Of.calls k t237 t238 t239 _ _ t248 _ _ t251 t254 t255 _ ?side1 ?side2 ?side3 ?side4 A15.out).mono ?_); (case side1 => repeat (first | exact (Kd.R_reads' HO250.out).2.2 | (with_reducible refine Kd.C_alloc ?_ _) | (with_reducible refine Kd.C_drewN ?_ _) | (with_reducible refine Kd.C_drew ?_))); (case side2 => exact (Kd.R_reads' HO250.out).2.1); (case side3 => repeat (first | exact (Kd.R_reads' HO253.out).2.2 | (with_reducible refine Kd.C_alloc ?_ _) | (with_reducible refine Kd.C_drewN ?_ _) | (with_reducible refine Kd.C_drew ?_))); (case side4 => exact (Kd.R_reads' HO253.out).2.1); rintro e w33 ⟨v256, rfl, ho0, hb⟩; refine ⟨_, rfl, ?_⟩; have n0_ := Aside0.mk (Kd.R_below (by (with_reducible repeat (first | apply Kd.R_alloc | apply Kd.R_drewN | apply Kd.R_drew)); exact HO250.out) hb); have n1_ := Aside0.mk (Kd.R_below (by (with_reducible repeat (first | apply Kd.R_alloc | apply Kd.R_drewN | apply Kd.R_drew)); exact HO253.out) hb); have n2_ := Aside0.mk (Kd.R_lower ho0 (below_size (by repeat (first | (with_reducible first | exact HB.out | apply below_alloc | apply pw_below_drewN | apply below_drew1 | refine below_set ?_ GE236.out) | exact HB.out)))); have n3_ := Aside0.mk (blk_below (g := gb236) (o := .cells #[.int .i64 a0_0, .int .i64 a0_1, .int .i64 a0_2] 22 (0, 0)) (by (with_reducible repeat (first | refine blk_drewN ?_ _ | refine blk_drew ?_ | refine blk_alloc ?_ _)); exact BK236.out) hb); have n4_ := Aside0.mk (below_step (by repeat (first | (with_reducible first | exact HB.out | apply below_alloc | apply pw_below_drewN | apply below_drew1 | refine below_set ?_ GE236.out) | exact HB.out)) hb); clear HO250; clear HO253; clear BK236; clear HB; have HO250 := n0_; have HO253 := n1_; have HO257 := n2_; have BK236 := n3_; have HB := n4_; clear n0_ n1_ n2_ n3_ n4_; (try clear hb); (try clear hb2); (try clear hk); (try clear hi); (try clear ho0)) | ((with_reducible refine gate_callee (f := 8) rfl ?_); refine goesL_ (some 55) rfl rfl Try.func8 (by kernel_rfl) rfl #[.int .i64 t237, .int .i64 t238, .int .i64 t239, .slice A1 y240.length c1, .slice A2 y244.length c2] rfl (by (try simp only [List.map_toArray, List.map_cons, List.map_nil]); first | done | rfl | (simp only [List.length_drop, List.length_take]; rfl)) ?_; (with_reducible refine (tripartiteref06_Of.calls k t237 t238 t239 _ _ y240 _ _ y244 t258 t259 _ ?side1 ?side2 ?side3 ?side4 A16.out).mono ?_); (case side1 => repeat (first | exact (Kd.C_below HR243.out HB.out) | (with_reducible refine Kd.C_alloc ?_ _) | (with_reducible refine Kd.C_drewN ?_ _) | (with_reducible refine Kd.C_drew ?_))); (case side2 => exact HC243.out); (case side3 => repeat (first | exact (Kd.C_below HR247.out HB.out) | (with_reducible refine Kd.C_alloc ?_ _) | (with_reducible refine Kd.C_drewN ?_ _) | (with_reducible refine Kd.C_drew ?_))); (case side4 => exact HC247.out); rintro e w34 ⟨v260, rfl, ho0, hb⟩; refine ⟨_, rfl, ?_⟩; have n0_ := Aside0.mk (Kd.R_below (by (with_reducible repeat (first | apply Kd.R_alloc | apply Kd.R_drewN | apply Kd.R_drew)); exact HO250.out) hb); have n1_ := Aside0.mk (Kd.R_below (by (with_reducible repeat (first | apply Kd.R_alloc | apply Kd.R_drewN | apply Kd.R_drew)); exact HO253.out) hb); have n2_ := Aside0.mk (Kd.R_below (by (with_reducible repeat (first | apply Kd.R_alloc | apply Kd.R_drewN | apply Kd.R_drew)); exact HO257.out) hb); have n3_ := Aside0.mk (Kd.R_lower ho0 (below_size (by repeat (first | (with_reducible first | exact HB.out | apply below_alloc | apply pw_below_drewN | apply below_drew1 | refine below_set ?_ GE236.out) | exact HB.out)))); have n4_ := Aside0.mk (blk_below (g := gb236) (o := .cells #[.int .i64 a0_0, .int .i64 a0_1, .int .i64 a0_2] 22 (0, 0)) (by (with_reducible repeat (first | refine blk_drewN ?_ _ | refine blk_drew ?_ | refine blk_alloc ?_ _)); exact BK236.out) hb); have n5_ := Aside0.mk (below_step (by repeat (first | (with_reducible first | exact HB.out | apply below_alloc | apply pw_below_drewN | apply below_drew1 | refine below_set ?_ GE236.out) | exact HB.out)) hb); clear HO250; clear HO253; clear HO257; clear BK236; clear HB; have HO250 := n0_; have HO253 := n1_; have HO257 := n2_; have HO261 := n3_; have BK236 := n4_; have HB := n5_; clear n0_ n1_ n2_ n3_ n4_ n5_; (try clear hb); (try clear hb2); (try clear hk); (try clear hi); (try clear ho0)) | ((with_reducible refine gate_callee (f := 7) rfl ?_); refine goesL_ (some 63) rfl rfl Try.func7 (by kernel_rfl) rfl #[.slice A2 y244.length c2] rfl (by (try simp only [List.map_toArray, List.map_cons, List.map_nil]); first | done | rfl | (simp only [List.length_drop, List.length_take]; rfl)) ?_; (with_reducible refine (tripartitelaw03_To.calls k _ _ y244 t262 _ ?side1 ?side2 A17.out).mono ?_); (case side1 => repeat (first | exact (Kd.C_below HR247.out HB.out) | (with_reducible refine Kd.C_alloc ?_ _) | (with_reducible refine Kd.C_drewN ?_ _) | (with_reducible refine Kd.C_drew ?_))); (case side2 => exact HC247.out); rintro e w35 ⟨v263, rfl, ho0, hb⟩; refine ⟨_, rfl, ?_⟩; have n0_ := Aside0.mk (Kd.R_elder' (by (with_reducible repeat (first | apply Kd.R_alloc | apply Kd.R_drewN | apply Kd.R_drew)); exact HO250.out) (Kd.R_base ho0) hb); have n1_ := Aside0.mk (Kd.R_elder' (by (with_reducible repeat (first | apply Kd.R_alloc | apply Kd.R_drewN | apply Kd.R_drew)); exact HO253.out) (Kd.R_base ho0) hb); have n2_ := Aside0.mk (Kd.R_below (by (with_reducible repeat (first | apply Kd.R_alloc | apply Kd.R_drewN | apply Kd.R_drew)); exact HO257.out) hb); have n3_ := Aside0.mk (Kd.R_below (by (with_reducible repeat (first | apply Kd.R_alloc | apply Kd.R_drewN | apply Kd.R_drew)); exact HO261.out) hb); have n4_ := Aside0.mk (Kd.R_lower (Kd.R_new' (Kd.R_new' ho0 (Kd.R_lt (by (with_reducible repeat (first | apply Kd.R_alloc | apply Kd.R_drewN | apply Kd.R_drew)); exact HO250.out))) (Kd.R_lt (by (with_reducible repeat (first | apply Kd.R_alloc | apply Kd.R_drewN | apply Kd.R_drew)); exact HO253.out))) (below_size (by repeat (first | (with_reducible first | exact HB.out | apply below_alloc | apply pw_below_drewN | apply below_drew1 | refine below_set ?_ GE236.out) | exact HB.out)))); have n5_ := Aside0.mk (blk_below (g := gb236) (o := .cells #[.int .i64 a0_0, .int .i64 a0_1, .int .i64 a0_2] 22 (0, 0)) (by (with_reducible repeat (first | refine blk_drewN ?_ _ | refine blk_drew ?_ | refine blk_alloc ?_ _)); exact BK236.out) hb); have n6_ := Aside0.mk (below_step (by repeat (first | (with_reducible first | exact HB.out | apply below_alloc | apply pw_below_drewN | apply below_drew1 | refine below_set ?_ GE236.out) | exact HB.out)) hb); clear HO250; clear HO253; clear HO257; clear HO261; clear BK236; clear HB; have HO250 := n0_; have HO253 := n1_; have HO257 := n2_; have HO261 := n3_; have HO264 := n4_; have BK236 := n5_; have HB := n6_; clear n0_ n1_ n2_ n3_ n4_ n5_ n6_; (try clear hb); (try clear hb2); (try clear hk); (try clear hi); (try clear ho0)) | ((with_reducible refine gate_callee (f := 7) rfl ?_); refine goesL_ (some 65) rfl rfl Try.func7 (by kernel_rfl) rfl #[.slice A1 y240.length c1] rfl (by (try simp only [List.map_toArray, List.map_cons, List.map_nil]); first | done | rfl | (simp only [List.length_drop, List.length_take]; rfl)) ?_; (with_reducible refine (tripartitelaw03_To.calls k _ _ y240 t265 _ ?side1 ?side2 A18.out).mono ?_); (case side1 => repeat (first | exact (Kd.C_below HR243.out HB.out) | (with_reducible refine Kd.C_alloc ?_ _) | (with_reducible refine Kd.C_drewN ?_ _) | (with_reducible refine Kd.C_drew ?_))); (case side2 => exact HC243.out); rintro e w36 ⟨v266, rfl, ho0, hb⟩; refine ⟨_, rfl, ?_⟩; have n0_ := Aside0.mk (Kd.R_elder' (by (with_reducible repeat (first | apply Kd.R_alloc | apply Kd.R_drewN | apply Kd.R_drew)); exact HO250.out) (Kd.R_base ho0) hb); have n1_ := Aside0.mk (Kd.R_elder' (by (with_reducible repeat (first | apply Kd.R_alloc | apply Kd.R_drewN | apply Kd.R_drew)); exact HO253.out) (Kd.R_base ho0) hb); have n2_ := Aside0.mk (Kd.R_below (by (with_reducible repeat (first | apply Kd.R_alloc | apply Kd.R_drewN | apply Kd.R_drew)); exact HO257.out) hb); have n3_ := Aside0.mk (Kd.R_below (by (with_reducible repeat (first | apply Kd.R_alloc | apply Kd.R_drewN | apply Kd.R_drew)); exact HO261.out) hb); have n4_ := Aside0.mk (Kd.R_elder' (by (with_reducible repeat (first | apply Kd.R_alloc | apply Kd.R_drewN | apply Kd.R_drew)); exact HO264.out) (Kd.R_base ho0) hb); have n5_ := Aside0.mk (Kd.R_lower (Kd.R_new' (Kd.R_new' (Kd.R_new' ho0 (Kd.R_lt (by (with_reducible repeat (first | apply Kd.R_alloc | apply Kd.R_drewN | apply Kd.R_drew)); exact HO250.out))) (Kd.R_lt (by (with_reducible repeat (first | apply Kd.R_alloc | apply Kd.R_drewN | apply Kd.R_drew)); exact HO253.out))) (Kd.R_lt (by (with_reducible repeat (first | apply Kd.R_alloc | apply Kd.R_drewN | apply Kd.R_drew)); exact HO264.out))) (below_size (by repeat (first | (with_reducible first | exact HB.out | apply below_alloc | apply pw_below_drewN | apply below_drew1 | refine below_set ?_ GE236.out) | exact HB.out)))); have n6_ := Aside0.mk (blk_below (g := gb236) (o := .cells #[.int .i64 a0_0, .int .i64 a0_1, .int .i64 a0_2] 22 (0, 0)) (by (with_reducible repeat (first | refine blk_drewN ?_ _ | refine blk_drew ?_ | refine blk_alloc ?_ _)); exact BK236.out) hb); have n7_ := Aside0.mk (below_step (by repeat (first | (with_reducible first | exact HB.out | apply below_alloc | apply pw_below_drewN | apply below_drew1 | refine below_set ?_ GE236.out) | exact HB.out)) hb); clear HO250; clear HO253; clear HO257; clear HO261; clear HO264; clear BK236; clear HB; have HO250 := n0_; have HO253 := n1_; have HO257 := n2_; have HO261 := n3_; have HO264 := n4_; have HO267 := n5_; have BK236 := n6_; have HB := n7_; clear n0_ n1_ n2_ n3_ n4_ n5_ n6_ n7_; (try clear hb); (try clear hb2); (try clear hk); (try clear hi); (try clear ho0); obtain ⟨Ao37, co37, eo37⟩ := Kd.R_slice HO264.out; subst eo37; obtain ⟨Ao38, co38, eo38⟩ := Kd.R_slice HO267.out; subst eo38) | ((with_reducible refine gate_callee (f := 6) rfl ?_); refine goesL_ (some 66) rfl rfl Try.func6 (by kernel_rfl) rfl #[.int .i64 t237, .int .i64 t239, .int .i64 t238, .slice Ao37 t262.length co37, .slice Ao38 t265.length co38] rfl (by (try simp only [List.map_toArray, List.map_cons, List.map_nil]); first | done | rfl | (simp only [List.length_drop, List.length_take]; rfl)) ?_; (with_reducible refine (chunk_Of.calls k t237 t239 t238 _ _ t262 _ _ t265 t268 t269 _ ?side1 ?side2 ?side3 ?side4 A19.out).mono ?_); (case side1 => repeat (first | exact (Kd.R_reads' HO264.out).2.2 | (with_reducible refine Kd.C_alloc ?_ _) | (with_reducible refine Kd.C_drewN ?_ _) | (with_reducible refine Kd.C_drew ?_))); (case side2 => exact (Kd.R_reads' HO264.out).2.1); (case side3 => repeat (first | exact (Kd.R_reads' HO267.out).2.2 | (with_reducible refine Kd.C_alloc ?_ _) | (with_reducible refine Kd.C_drewN ?_ _) | (with_reducible refine Kd.C_drew ?_))); (case side4 => exact (Kd.R_reads' HO267.out).2.1); rintro e w39 ⟨v270, rfl, ho0, hb⟩; refine ⟨_, rfl, ?_⟩; have n0_ := Aside0.mk (Kd.R_below (by (with_reducible repeat (first | apply Kd.R_alloc | apply Kd.R_drewN | apply Kd.R_drew)); exact HO250.out) hb); have n1_ := Aside0.mk (Kd.R_below (by (with_reducible repeat (first | apply Kd.R_alloc | apply Kd.R_drewN | apply Kd.R_drew)); exact HO253.out) hb); have n2_ := Aside0.mk (Kd.R_elder' (by (with_reducible repeat (first | apply Kd.R_alloc | apply Kd.R_drewN | apply Kd.R_drew)); exact HO257.out) (Kd.R_base ho0) hb); have n3_ := Aside0.mk (Kd.R_below (by (with_reducible repeat (first | apply Kd.R_alloc | apply Kd.R_drewN | apply Kd.R_drew)); exact HO261.out) hb); have n4_ := Aside0.mk (Kd.R_below (by (with_reducible repeat (first | apply Kd.R_alloc | apply Kd.R_drewN | apply Kd.R_drew)); exact HO264.out) hb); have n5_ := Aside0.mk (Kd.R_below (by (with_reducible repeat (first | apply Kd.R_alloc | apply Kd.R_drewN | apply Kd.R_drew)); exact HO267.out) hb); have n6_ := Aside0.mk (Kd.R_lower (Kd.R_new' ho0 (Kd.R_lt (by (with_reducible repeat (first | apply Kd.R_alloc | apply Kd.R_drewN | apply Kd.R_drew)); exact HO257.out))) (below_size (by repeat (first | (with_reducible first | exact HB.out | apply below_alloc | apply pw_below_drewN | apply below_drew1 | refine below_set ?_ GE236.out) | exact HB.out)))); have n7_ := Aside0.mk (blk_below (g := gb236) (o := .cells #[.int .i64 a0_0, .int .i64 a0_1, .int .i64 a0_2] 22 (0, 0)) (by (with_reducible repeat (first | refine blk_drewN ?_ _ | refine blk_drew ?_ | refine blk_alloc ?_ _)); exact BK236.out) hb); have n8_ := Aside0.mk (below_step (by repeat (first | (with_reducible first | exact HB.out | apply below_alloc | apply pw_below_drewN | apply below_drew1 | refine below_set ?_ GE236.out) | exact HB.out)) hb); clear HO250; clear HO253; clear HO257; clear HO261; clear HO264; clear HO267; clear BK236; clear HB; have HO250 := n0_; have HO253 := n1_; have HO257 := n2_; have HO261 := n3_; have HO264 := n4_; have HO267 := n5_; have HO271 := n6_; have BK236 := n7_; have HB := n8_; clear n0_ n1_ n2_ n3_ n4_ n5_ n6_ n7_ n8_; (try clear hb); (try clear hb2); (try clear hk); (try clear hi); (try clear ho0)))
     (try simp only [Act.put, List.setIfInBounds_toArray, List.set_cons_zero, List.set_cons_succ])
     go_cut [103] (fun v103 wc => ∃ (kq : Nat) (x103_19 : Bool), v103 = .bool x103_19 ∧ Aside0 (tripartitelaw06_ChunkLists.j0 kq t237 t238 t239 t254 t259 t268 x103_19 = some r) ∧ Aside0 (kq ≤ k) ∧ Aside0 (Kd.R k40 40 wc w.heap.size (fun k_ => some k_ ≠ (v270 : Value).ownBlock) v256 t254) ∧ Aside0 (Kd.R k40 40 wc w.heap.size (fun k_ => some k_ ≠ (v256 : Value).ownBlock) v270 t268) ∧ Aside0 (wc.heap[gb236]? = some (.cells #[.int .i64 a0_0, .int .i64 a0_1, .int .i64 a0_2] 22 (0, 0))) ∧ Aside0 (Below w.heap.size w wc))
     case first =>
      have H := HC20.out
      clear HC20
      replace H := Option.bind_eq_some_iff.mp H
      obtain ⟨t272, A400, H⟩ := H
      replace H : (if t272 = true then (if ((t255 == 0) != t259) = true then (none) else (if t255 = t269 then (if t259 = true then ((tripartitelaw06_From.f k t254).bind fun t273 => ((tripartitelaw06_Same.f k t273 t258).bind fun t276 => (if t276 = true then (tripartitelaw06_ChunkLists.j0 k t237 t238 t239 t254 t259 t268 ((t254.length : Int) != (t268.length : Int))) else (none)))) else (if t255 = 12 then ((tripartitelaw06_From.f k t254).bind fun t277 => ((tripartitelaw06_Same.f k t277 t258).bind fun t280 => (if t280 = true then (tripartitelaw06_ChunkLists.j0 k t237 t238 t239 t254 t259 t268 ((t254.length : Int) != (t268.length : Int))) else (none)))) else (none))) else (none))) else (none)) = some r := H
      have A40 := Aside0.mk A400
      clear A400
      by_cases c41 : t272 = true
      ·subst c41
       have H1 : (if ((t255 == 0) != t259) = true then (none) else (if t255 = t269 then (if t259 = true then ((tripartitelaw06_From.f k t254).bind fun t273 => ((tripartitelaw06_Same.f k t273 t258).bind fun t276 => (if t276 = true then (tripartitelaw06_ChunkLists.j0 k t237 t238 t239 t254 t259 t268 ((t254.length : Int) != (t268.length : Int))) else (none)))) else (if t255 = 12 then ((tripartitelaw06_From.f k t254).bind fun t277 => ((tripartitelaw06_Same.f k t277 t258).bind fun t280 => (if t280 = true then (tripartitelaw06_ChunkLists.j0 k t237 t238 t239 t254 t259 t268 ((t254.length : Int) != (t268.length : Int))) else (none)))) else (none))) else (none))) = some r := by rw [if_pos rfl] at H; exact H
       clear H
       have H := H1
       clear H1
       by_cases c42 : ((t255 == 0) != t259) = true
       ·rw [if_pos c42] at H
        exact absurd H (by simp)
       ·rw [if_neg c42] at H
        have c42b0 : ((t255 == 0) != t259) = false := by simpa using c42
        (try (have c42b1 : decide ((t255 == 0) = t259) = true := by simpa using c42))
        (try (have c42b2 : ((t255 == 0) == t259) = true := by simpa using c42))
        clear c42
        (first | rw [c42b0] | (simp only [i64_w, i32_w]; rw [c42b0]) | skip)
        by_cases c43 : t255 = t269
        ·rw [if_pos c43] at H
         have c43b0 : (t255 == t269) = true := beq_iff_eq.mpr c43
         have c43b1 : (t255 != t269) = false := bne_eq_false_iff_eq.mpr c43
         clear c43
         by_cases c44 : t259 = true
         ·subst c44
          have H1 : ((tripartitelaw06_From.f k t254).bind fun t273 => ((tripartitelaw06_Same.f k t273 t258).bind fun t276 => (if t276 = true then (tripartitelaw06_ChunkLists.j0 k t237 t238 t239 t254 true t268 ((t254.length : Int) != (t268.length : Int))) else (none)))) = some r := by rw [if_pos rfl] at H; exact H
          clear H
          have H := H1
          clear H1
          replace H := Option.bind_eq_some_iff.mp H
          obtain ⟨t273, A450, H⟩ := H
          replace H : ((tripartitelaw06_Same.f k t273 t258).bind fun t276 => (if t276 = true then (tripartitelaw06_ChunkLists.j0 k t237 t238 t239 t254 true t268 ((t254.length : Int) != (t268.length : Int))) else (none))) = some r := H
          have A45 := Aside0.mk A450
          clear A450
          replace H := Option.bind_eq_some_iff.mp H
          obtain ⟨t276, A460, H⟩ := H
          replace H : (if t276 = true then (tripartitelaw06_ChunkLists.j0 k t237 t238 t239 t254 true t268 ((t254.length : Int) != (t268.length : Int))) else (none)) = some r := H
          have A46 := Aside0.mk A460
          clear A460
          by_cases c47 : t276 = true
          ·subst c47
           have H1 : (tripartitelaw06_ChunkLists.j0 k t237 t238 t239 t254 true t268 ((t254.length : Int) != (t268.length : Int))) = some r := by rw [if_pos rfl] at H; exact H
           clear H
           have H := H1
           clear H1
           have H' := Aside0.mk H
           clear H
           go_wp2_with (first | ((with_reducible refine gate_callee (f := 9) rfl ?_); refine goesL_ (some 69) rfl rfl Try.func9 (by kernel_rfl) rfl #[] rfl (by (try simp only [List.map_toArray, List.map_cons, List.map_nil]); first | done | rfl | (simp only [List.length_drop, List.length_take]; rfl)) ?_; (with_reducible refine (tripartitelaw06_told.calls k  true _ A40.out).mono ?_); rintro e w48 ⟨rfl, hb⟩; refine ⟨_, rfl, ?_⟩; have n0_ := Aside0.mk (Kd.R_below (by (with_reducible repeat (first | apply Kd.R_alloc | apply Kd.R_drewN | apply Kd.R_drew)); exact HO250.out) hb); have n1_ := Aside0.mk (Kd.R_below (by (with_reducible repeat (first | apply Kd.R_alloc | apply Kd.R_drewN | apply Kd.R_drew)); exact HO253.out) hb); have n2_ := Aside0.mk (Kd.R_below (by (with_reducible repeat (first | apply Kd.R_alloc | apply Kd.R_drewN | apply Kd.R_drew)); exact HO257.out) hb); have n3_ := Aside0.mk (Kd.R_below (by (with_reducible repeat (first | apply Kd.R_alloc | apply Kd.R_drewN | apply Kd.R_drew)); exact HO261.out) hb); have n4_ := Aside0.mk (Kd.R_below (by (with_reducible repeat (first | apply Kd.R_alloc | apply Kd.R_drewN | apply Kd.R_drew)); exact HO264.out) hb); have n5_ := Aside0.mk (Kd.R_below (by (with_reducible repeat (first | apply Kd.R_alloc | apply Kd.R_drewN | apply Kd.R_drew)); exact HO267.out) hb); have n6_ := Aside0.mk (Kd.R_below (by (with_reducible repeat (first | apply Kd.R_alloc | apply Kd.R_drewN | apply Kd.R_drew)); exact HO271.out) hb); have n7_ := Aside0.mk (blk_below (g := gb236) (o := .cells #[.int .i64 a0_0, .int .i64 a0_1, .int .i64 a0_2] 22 (0, 0)) (by (with_reducible repeat (first | refine blk_drewN ?_ _ | refine blk_drew ?_ | refine blk_alloc ?_ _)); exact BK236.out) hb); have n8_ := Aside0.mk (below_step (by repeat (first | (with_reducible first | exact HB.out | apply below_alloc | apply pw_below_drewN | apply below_drew1 | refine below_set ?_ GE236.out) | exact HB.out)) hb); clear HO250; clear HO253; clear HO257; clear HO261; clear HO264; clear HO267; clear HO271; clear BK236; clear HB; have HO250 := n0_; have HO253 := n1_; have HO257 := n2_; have HO261 := n3_; have HO264 := n4_; have HO267 := n5_; have HO271 := n6_; have BK236 := n7_; have HB := n8_; clear n0_ n1_ n2_ n3_ n4_ n5_ n6_ n7_ n8_; (try clear hb); (try clear hb2); (try clear hk); (try clear hi); obtain ⟨Ao49, co49, eo49⟩ := Kd.R_slice HO257.out; subst eo49) | (go_at_call 11; (with_reducible refine (tripartitelaw06_From.calls k _ _ t254 t273 _ ?side1 ?side2 A45.out).mono ?_); (case side1 => repeat (first | exact (Kd.R_reads' HO257.out).2.2 | (with_reducible refine Kd.C_alloc ?_ _) | (with_reducible refine Kd.C_drewN ?_ _) | (with_reducible refine Kd.C_drew ?_))); (case side2 => exact (Kd.R_reads' HO257.out).2.1); rintro e w50 ⟨v274, rfl, ho0, hb⟩; have n0_ := Aside0.mk (Kd.R_below (by (with_reducible repeat (first | apply Kd.R_alloc | apply Kd.R_drewN | apply Kd.R_drew)); exact HO250.out) hb); have n1_ := Aside0.mk (Kd.R_below (by (with_reducible repeat (first | apply Kd.R_alloc | apply Kd.R_drewN | apply Kd.R_drew)); exact HO253.out) hb); have n2_ := Aside0.mk (Kd.R_below (by (with_reducible repeat (first | apply Kd.R_alloc | apply Kd.R_drewN | apply Kd.R_drew)); exact HO257.out) hb); have n3_ := Aside0.mk (Kd.R_elder' (by (with_reducible repeat (first | apply Kd.R_alloc | apply Kd.R_drewN | apply Kd.R_drew)); exact HO261.out) (Kd.R_base ho0) hb); have n4_ := Aside0.mk (Kd.R_below (by (with_reducible repeat (first | apply Kd.R_alloc | apply Kd.R_drewN | apply Kd.R_drew)); exact HO264.out) hb); have n5_ := Aside0.mk (Kd.R_below (by (with_reducible repeat (first | apply Kd.R_alloc | apply Kd.R_drewN | apply Kd.R_drew)); exact HO267.out) hb); have n6_ := Aside0.mk (Kd.R_below (by (with_reducible repeat (first | apply Kd.R_alloc | apply Kd.R_drewN | apply Kd.R_drew)); exact HO271.out) hb); have n7_ := Aside0.mk (Kd.R_lower (Kd.R_new' ho0 (Kd.R_lt (by (with_reducible repeat (first | apply Kd.R_alloc | apply Kd.R_drewN | apply Kd.R_drew)); exact HO261.out))) (below_size (by repeat (first | (with_reducible first | exact HB.out | apply below_alloc | apply pw_below_drewN | apply below_drew1 | refine below_set ?_ GE236.out) | exact HB.out)))); have n8_ := Aside0.mk (blk_below (g := gb236) (o := .cells #[.int .i64 a0_0, .int .i64 a0_1, .int .i64 a0_2] 22 (0, 0)) (by (with_reducible repeat (first | refine blk_drewN ?_ _ | refine blk_drew ?_ | refine blk_alloc ?_ _)); exact BK236.out) hb); have n9_ := Aside0.mk (below_step (by repeat (first | (with_reducible first | exact HB.out | apply below_alloc | apply pw_below_drewN | apply below_drew1 | refine below_set ?_ GE236.out) | exact HB.out)) hb); clear HO250; clear HO253; clear HO257; clear HO261; clear HO264; clear HO267; clear HO271; clear BK236; clear HB; have HO250 := n0_; have HO253 := n1_; have HO257 := n2_; have HO261 := n3_; have HO264 := n4_; have HO267 := n5_; have HO271 := n6_; have HO275 := n7_; have BK236 := n8_; have HB := n9_; clear n0_ n1_ n2_ n3_ n4_ n5_ n6_ n7_ n8_ n9_; (try clear hb); (try clear hb2); (try clear hk); (try clear hi); (try clear ho0); obtain ⟨Ao51, co51, eo51⟩ := Kd.R_slice HO275.out; subst eo51; obtain ⟨Ao52, co52, eo52⟩ := Kd.R_slice HO261.out; subst eo52) | (go_at_call 10; (with_reducible refine (tripartitelaw06_Same.calls k _ _ t273 _ _ t258 true _ ?side1 ?side2 ?side3 ?side4 A46.out).mono ?_); (case side1 => repeat (first | exact (Kd.R_reads' HO275.out).2.2 | (with_reducible refine Kd.C_alloc ?_ _) | (with_reducible refine Kd.C_drewN ?_ _) | (with_reducible refine Kd.C_drew ?_))); (case side2 => exact (Kd.R_reads' HO275.out).2.1); (case side3 => repeat (first | exact (Kd.R_reads' HO261.out).2.2 | (with_reducible refine Kd.C_alloc ?_ _) | (with_reducible refine Kd.C_drewN ?_ _) | (with_reducible refine Kd.C_drew ?_))); (case side4 => exact (Kd.R_reads' HO261.out).2.1); rintro e w' ⟨rfl, ⟨nd, rfl⟩⟩; obtain ⟨Ao53, co53, eo53⟩ := Kd.R_slice HO271.out; subst eo53))
           go_meet
           case rel => exact ⟨_, (((t254.length : Int) != (t268.length : Int))), (by first | rfl | (simp; done) | (simp [*]; done)), H', ⟨by first | omega | exact Nat.le_refl _⟩, ⟨by (with_reducible repeat (first | apply Kd.R_alloc | apply Kd.R_drewN | apply Kd.R_drew)); exact Kd.R_mono HO257.out (fun _ hk => hk.2)⟩, ⟨by (with_reducible repeat (first | apply Kd.R_alloc | apply Kd.R_drewN | apply Kd.R_drew)); exact Kd.R_mono HO271.out (fun _ hk => hk.2)⟩, ⟨by (with_reducible repeat (first | refine blk_drewN ?_ _ | refine blk_drew ?_ | refine blk_alloc ?_ _)); exact BK236.out⟩, ⟨by repeat (first | (with_reducible first | exact HB.out | apply below_alloc | apply pw_below_drewN | apply below_drew1 | refine below_set ?_ GE236.out) | exact HB.out)⟩⟩
          ·replace c47 := Bool.eq_false_iff.mpr c47
           subst c47
           have H1 : (none) = some r := by rw [if_neg (show ¬ (false = true) by decide)] at H; exact H
           clear H
           have H := H1
           clear H1
           exact absurd H (by simp)
         ·replace c44 := Bool.eq_false_iff.mpr c44
          subst c44
          have H1 : (if t255 = 12 then ((tripartitelaw06_From.f k t254).bind fun t277 => ((tripartitelaw06_Same.f k t277 t258).bind fun t280 => (if t280 = true then (tripartitelaw06_ChunkLists.j0 k t237 t238 t239 t254 false t268 ((t254.length : Int) != (t268.length : Int))) else (none)))) else (none)) = some r := by rw [if_neg (show ¬ (false = true) by decide)] at H; exact H
          clear H
          have H := H1
          clear H1
          by_cases c54 : t255 = 12
          ·rw [if_pos c54] at H
           have c54b0 : (t255 == 12) = true := beq_iff_eq.mpr c54
           have c54b1 : (t255 != 12) = false := bne_eq_false_iff_eq.mpr c54
           clear c54
           replace H := Option.bind_eq_some_iff.mp H
           obtain ⟨t277, A550, H⟩ := H
           replace H : ((tripartitelaw06_Same.f k t277 t258).bind fun t280 => (if t280 = true then (tripartitelaw06_ChunkLists.j0 k t237 t238 t239 t254 false t268 ((t254.length : Int) != (t268.length : Int))) else (none))) = some r := H
           have A55 := Aside0.mk A550
           clear A550
           replace H := Option.bind_eq_some_iff.mp H
           obtain ⟨t280, A560, H⟩ := H
           replace H : (if t280 = true then (tripartitelaw06_ChunkLists.j0 k t237 t238 t239 t254 false t268 ((t254.length : Int) != (t268.length : Int))) else (none)) = some r := H
           have A56 := Aside0.mk A560
           clear A560
           by_cases c57 : t280 = true
           ·subst c57
            have H1 : (tripartitelaw06_ChunkLists.j0 k t237 t238 t239 t254 false t268 ((t254.length : Int) != (t268.length : Int))) = some r := by rw [if_pos rfl] at H; exact H
            clear H
            have H := H1
            clear H1
            have H' := Aside0.mk H
            clear H
            go_wp2_with (first | ((with_reducible refine gate_callee (f := 9) rfl ?_); refine goesL_ (some 69) rfl rfl Try.func9 (by kernel_rfl) rfl #[] rfl (by (try simp only [List.map_toArray, List.map_cons, List.map_nil]); first | done | rfl | (simp only [List.length_drop, List.length_take]; rfl)) ?_; (with_reducible refine (tripartitelaw06_told.calls k  true _ A40.out).mono ?_); rintro e w58 ⟨rfl, hb⟩; refine ⟨_, rfl, ?_⟩; have n0_ := Aside0.mk (Kd.R_below (by (with_reducible repeat (first | apply Kd.R_alloc | apply Kd.R_drewN | apply Kd.R_drew)); exact HO250.out) hb); have n1_ := Aside0.mk (Kd.R_below (by (with_reducible repeat (first | apply Kd.R_alloc | apply Kd.R_drewN | apply Kd.R_drew)); exact HO253.out) hb); have n2_ := Aside0.mk (Kd.R_below (by (with_reducible repeat (first | apply Kd.R_alloc | apply Kd.R_drewN | apply Kd.R_drew)); exact HO257.out) hb); have n3_ := Aside0.mk (Kd.R_below (by (with_reducible repeat (first | apply Kd.R_alloc | apply Kd.R_drewN | apply Kd.R_drew)); exact HO261.out) hb); have n4_ := Aside0.mk (Kd.R_below (by (with_reducible repeat (first | apply Kd.R_alloc | apply Kd.R_drewN | apply Kd.R_drew)); exact HO264.out) hb); have n5_ := Aside0.mk (Kd.R_below (by (with_reducible repeat (first | apply Kd.R_alloc | apply Kd.R_drewN | apply Kd.R_drew)); exact HO267.out) hb); have n6_ := Aside0.mk (Kd.R_below (by (with_reducible repeat (first | apply Kd.R_alloc | apply Kd.R_drewN | apply Kd.R_drew)); exact HO271.out) hb); have n7_ := Aside0.mk (blk_below (g := gb236) (o := .cells #[.int .i64 a0_0, .int .i64 a0_1, .int .i64 a0_2] 22 (0, 0)) (by (with_reducible repeat (first | refine blk_drewN ?_ _ | refine blk_drew ?_ | refine blk_alloc ?_ _)); exact BK236.out) hb); have n8_ := Aside0.mk (below_step (by repeat (first | (with_reducible first | exact HB.out | apply below_alloc | apply pw_below_drewN | apply below_drew1 | refine below_set ?_ GE236.out) | exact HB.out)) hb); clear HO250; clear HO253; clear HO257; clear HO261; clear HO264; clear HO267; clear HO271; clear BK236; clear HB; have HO250 := n0_; have HO253 := n1_; have HO257 := n2_; have HO261 := n3_; have HO264 := n4_; have HO267 := n5_; have HO271 := n6_; have BK236 := n7_; have HB := n8_; clear n0_ n1_ n2_ n3_ n4_ n5_ n6_ n7_ n8_; (try clear hb); (try clear hb2); (try clear hk); (try clear hi); obtain ⟨Ao59, co59, eo59⟩ := Kd.R_slice HO257.out; subst eo59) | (go_at_call 11; (with_reducible refine (tripartitelaw06_From.calls k _ _ t254 t277 _ ?side1 ?side2 A55.out).mono ?_); (case side1 => repeat (first | exact (Kd.R_reads' HO257.out).2.2 | (with_reducible refine Kd.C_alloc ?_ _) | (with_reducible refine Kd.C_drewN ?_ _) | (with_reducible refine Kd.C_drew ?_))); (case side2 => exact (Kd.R_reads' HO257.out).2.1); rintro e w60 ⟨v278, rfl, ho0, hb⟩; have n0_ := Aside0.mk (Kd.R_below (by (with_reducible repeat (first | apply Kd.R_alloc | apply Kd.R_drewN | apply Kd.R_drew)); exact HO250.out) hb); have n1_ := Aside0.mk (Kd.R_below (by (with_reducible repeat (first | apply Kd.R_alloc | apply Kd.R_drewN | apply Kd.R_drew)); exact HO253.out) hb); have n2_ := Aside0.mk (Kd.R_below (by (with_reducible repeat (first | apply Kd.R_alloc | apply Kd.R_drewN | apply Kd.R_drew)); exact HO257.out) hb); have n3_ := Aside0.mk (Kd.R_elder' (by (with_reducible repeat (first | apply Kd.R_alloc | apply Kd.R_drewN | apply Kd.R_drew)); exact HO261.out) (Kd.R_base ho0) hb); have n4_ := Aside0.mk (Kd.R_below (by (with_reducible repeat (first | apply Kd.R_alloc | apply Kd.R_drewN | apply Kd.R_drew)); exact HO264.out) hb); have n5_ := Aside0.mk (Kd.R_below (by (with_reducible repeat (first | apply Kd.R_alloc | apply Kd.R_drewN | apply Kd.R_drew)); exact HO267.out) hb); have n6_ := Aside0.mk (Kd.R_below (by (with_reducible repeat (first | apply Kd.R_alloc | apply Kd.R_drewN | apply Kd.R_drew)); exact HO271.out) hb); have n7_ := Aside0.mk (Kd.R_lower (Kd.R_new' ho0 (Kd.R_lt (by (with_reducible repeat (first | apply Kd.R_alloc | apply Kd.R_drewN | apply Kd.R_drew)); exact HO261.out))) (below_size (by repeat (first | (with_reducible first | exact HB.out | apply below_alloc | apply pw_below_drewN | apply below_drew1 | refine below_set ?_ GE236.out) | exact HB.out)))); have n8_ := Aside0.mk (blk_below (g := gb236) (o := .cells #[.int .i64 a0_0, .int .i64 a0_1, .int .i64 a0_2] 22 (0, 0)) (by (with_reducible repeat (first | refine blk_drewN ?_ _ | refine blk_drew ?_ | refine blk_alloc ?_ _)); exact BK236.out) hb); have n9_ := Aside0.mk (below_step (by repeat (first | (with_reducible first | exact HB.out | apply below_alloc | apply pw_below_drewN | apply below_drew1 | refine below_set ?_ GE236.out) | exact HB.out)) hb); clear HO250; clear HO253; clear HO257; clear HO261; clear HO264; clear HO267; clear HO271; clear BK236; clear HB; have HO250 := n0_; have HO253 := n1_; have HO257 := n2_; have HO261 := n3_; have HO264 := n4_; have HO267 := n5_; have HO271 := n6_; have HO279 := n7_; have BK236 := n8_; have HB := n9_; clear n0_ n1_ n2_ n3_ n4_ n5_ n6_ n7_ n8_ n9_; (try clear hb); (try clear hb2); (try clear hk); (try clear hi); (try clear ho0); obtain ⟨Ao61, co61, eo61⟩ := Kd.R_slice HO279.out; subst eo61; obtain ⟨Ao62, co62, eo62⟩ := Kd.R_slice HO261.out; subst eo62) | (go_at_call 10; (with_reducible refine (tripartitelaw06_Same.calls k _ _ t277 _ _ t258 true _ ?side1 ?side2 ?side3 ?side4 A56.out).mono ?_); (case side1 => repeat (first | exact (Kd.R_reads' HO279.out).2.2 | (with_reducible refine Kd.C_alloc ?_ _) | (with_reducible refine Kd.C_drewN ?_ _) | (with_reducible refine Kd.C_drew ?_))); (case side2 => exact (Kd.R_reads' HO279.out).2.1); (case side3 => repeat (first | exact (Kd.R_reads' HO261.out).2.2 | (with_reducible refine Kd.C_alloc ?_ _) | (with_reducible refine Kd.C_drewN ?_ _) | (with_reducible refine Kd.C_drew ?_))); (case side4 => exact (Kd.R_reads' HO261.out).2.1); rintro e w' ⟨rfl, ⟨nd, rfl⟩⟩; obtain ⟨Ao63, co63, eo63⟩ := Kd.R_slice HO271.out; subst eo63))
            go_meet
            case rel => exact ⟨_, (((t254.length : Int) != (t268.length : Int))), (by first | rfl | (simp; done) | (simp [*]; done)), H', ⟨by first | omega | exact Nat.le_refl _⟩, ⟨by (with_reducible repeat (first | apply Kd.R_alloc | apply Kd.R_drewN | apply Kd.R_drew)); exact Kd.R_mono HO257.out (fun _ hk => hk.2)⟩, ⟨by (with_reducible repeat (first | apply Kd.R_alloc | apply Kd.R_drewN | apply Kd.R_drew)); exact Kd.R_mono HO271.out (fun _ hk => hk.2)⟩, ⟨by (with_reducible repeat (first | refine blk_drewN ?_ _ | refine blk_drew ?_ | refine blk_alloc ?_ _)); exact BK236.out⟩, ⟨by repeat (first | (with_reducible first | exact HB.out | apply below_alloc | apply pw_below_drewN | apply below_drew1 | refine below_set ?_ GE236.out) | exact HB.out)⟩⟩
           ·replace c57 := Bool.eq_false_iff.mpr c57
            subst c57
            have H1 : (none) = some r := by rw [if_neg (show ¬ (false = true) by decide)] at H; exact H
            clear H
            have H := H1
            clear H1
            exact absurd H (by simp)
          ·rw [if_neg c54] at H
           exact absurd H (by simp)
        ·rw [if_neg c43] at H
         exact absurd H (by simp)
      ·replace c41 := Bool.eq_false_iff.mpr c41
       subst c41
       have H1 : (none) = some r := by rw [if_neg (show ¬ (false = true) by decide)] at H; exact H
       clear H
       have H := H1
       clear H1
       exact absurd H (by simp)
     case rest =>
      clear HC20
      obtain ⟨kq, x103_19, rfl, HA, HJ19, HO_10, HO_14, BK236, HB⟩ := hcut
      cases kq with
      | zero => exact absurd HA.out (by simp [tripartitelaw06_ChunkLists.j0])
      | succ kj19 =>
       have H := HA.out
       clear HA
       simp only [tripartitelaw06_ChunkLists.j0] at H
       by_cases c64 : x103_19 = true
       ·subst c64
        have H1 : (none) = some r := by rw [if_pos rfl] at H; exact H
        clear H
        have H := H1
        clear H1
        exact absurd H (by simp)
       ·replace c64 := Bool.eq_false_iff.mpr c64
        subst c64
        have H1 : (tripartitelaw06_ChunkLists.l0 kj19 t237 t238 t239 t254 t259 t268 0 0 0 0) = some r := by rw [if_neg (show ¬ (false = true) by decide)] at H; exact H
        clear H
        have H := H1
        clear H1
        have H' := Aside0.mk H
        clear H
        go_wp2_with (first | ((with_reducible refine gate_dst (N := 16) rfl ?_); (try (refine gate_guard (by rfl) ?_; dsimp only)); refine box_event ?hg (N := 16) ?hd (cs := #[.int .i64 0, .int .i64 0, .int .i64 0]) (t := 22) ?hr ?_; (case hd => rfl); (case hg => rfl); (case hr => first | (go_simp; done) | (go_simp; rfl)); intro gb281 hg w65 hbox hb; have n0_ := Aside0.mk (Kd.R_below (by (with_reducible repeat (first | apply Kd.R_alloc | apply Kd.R_drewN | apply Kd.R_drew)); exact HO_10.out) hb); have n1_ := Aside0.mk (Kd.R_below (by (with_reducible repeat (first | apply Kd.R_alloc | apply Kd.R_drewN | apply Kd.R_drew)); exact HO_14.out) hb); have n2_ := Aside0.mk (blk_below (g := gb236) (o := .cells #[.int .i64 a0_0, .int .i64 a0_1, .int .i64 a0_2] 22 (0, 0)) (by (with_reducible repeat (first | refine blk_drewN ?_ _ | refine blk_drew ?_ | refine blk_alloc ?_ _)); exact BK236.out) hb); have n3_ := Aside0.mk (below_step (by repeat (first | (with_reducible first | exact HB.out | apply below_alloc | apply pw_below_drewN | apply below_drew1 | refine below_set ?_ GE236.out) | exact HB.out)) hb); have n4_ := Aside0.mk (hbox); have n5_ := Aside0.mk ((by rw [hg]; exact (below_size (by repeat (first | (with_reducible first | exact HB.out | apply below_alloc | apply pw_below_drewN | apply below_drew1 | refine below_set ?_ GE236.out) | exact HB.out))) : w.heap.size ≤ gb281)); have n6_ := Aside0.mk ((by rw [hg]; exact (below_size (by repeat (first | (with_reducible first | exact HB.out | apply below_alloc | apply pw_below_drewN | apply below_drew1 | refine below_set ?_ GE236.out) | exact HB.out))) : w.heap.size ≤ gb281)); have n7_ := Aside0.mk ((by rw [hg]; exact Nat.ne_of_lt (blk_lt (g := gb236) (o := .cells #[.int .i64 a0_0, .int .i64 a0_1, .int .i64 a0_2] 22 (0, 0)) (by (with_reducible repeat (first | refine blk_drewN ?_ _ | refine blk_drew ?_ | refine blk_alloc ?_ _)); exact BK236.out)) : gb236 ≠ gb281)); have n8_ := Aside0.mk ((by rw [hg]; exact Nat.ne_of_gt (blk_lt (g := gb236) (o := .cells #[.int .i64 a0_0, .int .i64 a0_1, .int .i64 a0_2] 22 (0, 0)) (by (with_reducible repeat (first | refine blk_drewN ?_ _ | refine blk_drew ?_ | refine blk_alloc ?_ _)); exact BK236.out)) : gb281 ≠ gb236)); clear HO_10; clear HO_14; clear BK236; clear HB; have HO_10 := n0_; have HO_14 := n1_; have BK236 := n2_; have HB := n3_; have BK281 := n4_; have GW281 := n5_; have GE281 := n6_; have NB236_281 := n7_; have NB281_236 := n8_; clear n0_ n1_ n2_ n3_ n4_ n5_ n6_ n7_ n8_; clear hb hbox hg))
        go_loopg [17] kj19 (fun kq v17 w' => ∃ (x17_2 : Int) (x282000_2 : Int) (x282001_2 : Int) (x282002_2 : Int), v17 = .int .i64 x17_2 ∧ Aside0 (tripartitelaw06_ChunkLists.l0 kq t237 t238 t239 t254 t259 t268 x17_2 x282000_2 x282001_2 x282002_2 = some r) ∧ Aside0 (kq ≤ kj19) ∧ Aside0 (Kd.R k40 40 w' w.heap.size (fun k_ => some k_ ≠ (v270 : Value).ownBlock) v256 t254) ∧ Aside0 (Kd.R k40 40 w' w.heap.size (fun k_ => some k_ ≠ (v256 : Value).ownBlock) v270 t268) ∧ Aside0 (w'.heap[gb236]? = some (.cells #[.int .i64 a0_0, .int .i64 a0_1, .int .i64 a0_2] 22 (0, 0))) ∧ Aside0 (w'.heap[gb281]? = some (.cells #[.int .i64 x282000_2, .int .i64 x282001_2, .int .i64 x282002_2] 22 (0, 0))) ∧ Aside0 (Below w.heap.size w w'))
        case atStart => exact ⟨(0), (0), (0), (0), (by first | rfl | (simp; done) | (simp [*]; done)), H', ⟨Nat.le_refl _⟩, ⟨by (with_reducible repeat (first | apply Kd.R_alloc | apply Kd.R_drewN | apply Kd.R_drew)); exact HO_10.out⟩, ⟨by (with_reducible repeat (first | apply Kd.R_alloc | apply Kd.R_drewN | apply Kd.R_drew)); exact HO_14.out⟩, ⟨by (with_reducible repeat (first | refine blk_drewN ?_ _ | refine blk_drew ?_ | refine blk_alloc ?_ _)); exact BK236.out⟩, ⟨by (with_reducible repeat (first | refine blk_drewN ?_ _ | refine blk_drew ?_ | refine blk_alloc ?_ _)); exact BK281.out⟩, ⟨by repeat (first | (with_reducible first | exact HB.out | apply below_alloc | apply pw_below_drewN | apply below_drew1 | refine below_set ?_ GE236.out | refine below_set ?_ GE281.out) | exact HB.out)⟩⟩
        case round =>
         clear H'
         obtain ⟨x17_2, x282000_2, x282001_2, x282002_2, rfl, HA, HK2, HO_10, HO_14, BK236, BK281, HB⟩ := hrel
         cases gk with
         | zero => exact absurd HA.out (by simp [tripartitelaw06_ChunkLists.l0])
         | succ k2 =>
          have H := HA.out
          clear HA
          simp only [tripartitelaw06_ChunkLists.l0] at H
          by_cases c66 : x17_2 < (t254.length : Int)
          ·rw [if_pos c66] at H
           have c66b0 : decide (x17_2 < (t254.length : Int)) = true := decide_eq_true c66
           clear c66
           by_cases c67 : 0 ≤ x17_2
           ·rw [if_pos c67] at H
            have c67b0 : decide (0 ≤ x17_2) = true := decide_eq_true c67
            clear c67
            have HC68 := Aside0.mk H
            clear H
            obtain ⟨Ao69, co69, eo69⟩ := Kd.R_slice HO_10.out
            subst eo69
            have p282 : 0 ≤ (x17_2 : Int) := of_decide_eq_true (by first | (with_reducible assumption) | assumption)
            have q282 : x17_2 < (t254.length : Int) := of_decide_eq_true (by first | (with_reducible assumption) | assumption)
            obtain ⟨ad282, e282, hx282_0, hx282_1, hx282_2, hx282_3, hx282_4, hx282_5, hx282_6⟩ := at_T40 (Kd.R_reads' HO_10.out).2.2 x17_2 p282 q282
            cases e282
            replace p282 := eq_true p282
            replace q282 := eq_true q282
            go_upto_region 13 with (first | ((with_reducible refine gate_dst (N := 18) rfl ?_); (try (refine gate_guard (by rfl) ?_; dsimp only)); refine box_event ?hg (N := 18) ?hd (cs := #[.bool false, .int .i64 0, .int .i64 0, .int .i64 0, .int .i64 0, .int .i64 0, .int .i64 0]) (t := 40) ?hr ?_; (case hd => rfl); (case hg => rfl); (case hr => first | (go_simp; done) | (go_simp; rfl)); intro gb283 hg w70 hbox hb; have n0_ := Aside0.mk (Kd.R_below (Kd.R_elderB (by (with_reducible repeat (first | apply Kd.R_alloc | apply Kd.R_drewN | apply Kd.R_drew)); exact HO_10.out) gb283 (Nat.le_of_eq hg.symm)) hb); have n1_ := Aside0.mk (Kd.R_below (Kd.R_elderB (by (with_reducible repeat (first | apply Kd.R_alloc | apply Kd.R_drewN | apply Kd.R_drew)); exact HO_14.out) gb283 (Nat.le_of_eq hg.symm)) hb); have n2_ := Aside0.mk (blk_below (g := gb236) (o := .cells #[.int .i64 a0_0, .int .i64 a0_1, .int .i64 a0_2] 22 (0, 0)) (by (with_reducible repeat (first | refine blk_drewN ?_ _ | refine blk_drew ?_ | refine blk_alloc ?_ _)); exact BK236.out) hb); have n3_ := Aside0.mk (blk_below (g := gb281) (o := .cells #[.int .i64 x282000_2, .int .i64 x282001_2, .int .i64 x282002_2] 22 (0, 0)) (by (with_reducible repeat (first | refine blk_drewN ?_ _ | refine blk_drew ?_ | refine blk_alloc ?_ _)); exact BK281.out) hb); have n4_ := Aside0.mk (below_step (by repeat (first | (with_reducible first | exact HB.out | apply below_alloc | apply pw_below_drewN | apply below_drew1 | refine below_set ?_ GE236.out | refine below_set ?_ GE281.out) | exact HB.out)) hb); have n5_ := Aside0.mk (hbox); have n6_ := Aside0.mk ((by rw [hg]; exact (below_size (by repeat (first | (with_reducible first | exact HB.out | apply below_alloc | apply pw_below_drewN | apply below_drew1 | refine below_set ?_ GE236.out | refine below_set ?_ GE281.out) | exact HB.out))) : w.heap.size ≤ gb283)); have n7_ := Aside0.mk ((by rw [hg]; exact (below_size (by repeat (first | (with_reducible first | exact HB.out | apply below_alloc | apply pw_below_drewN | apply below_drew1 | refine below_set ?_ GE236.out | refine below_set ?_ GE281.out) | exact HB.out))) : w.heap.size ≤ gb283)); have n8_ := Aside0.mk ((by rw [hg]; exact Nat.ne_of_lt (blk_lt (g := gb236) (o := .cells #[.int .i64 a0_0, .int .i64 a0_1, .int .i64 a0_2] 22 (0, 0)) (by (with_reducible repeat (first | refine blk_drewN ?_ _ | refine blk_drew ?_ | refine blk_alloc ?_ _)); exact BK236.out)) : gb236 ≠ gb283)); have n9_ := Aside0.mk ((by rw [hg]; exact Nat.ne_of_gt (blk_lt (g := gb236) (o := .cells #[.int .i64 a0_0, .int .i64 a0_1, .int .i64 a0_2] 22 (0, 0)) (by (with_reducible repeat (first | refine blk_drewN ?_ _ | refine blk_drew ?_ | refine blk_alloc ?_ _)); exact BK236.out)) : gb283 ≠ gb236)); have n10_ := Aside0.mk ((by rw [hg]; exact Nat.ne_of_lt (blk_lt (g := gb281) (o := .cells #[.int .i64 x282000_2, .int .i64 x282001_2, .int .i64 x282002_2] 22 (0, 0)) (by (with_reducible repeat (first | refine blk_drewN ?_ _ | refine blk_drew ?_ | refine blk_alloc ?_ _)); exact BK281.out)) : gb281 ≠ gb283)); have n11_ := Aside0.mk ((by rw [hg]; exact Nat.ne_of_gt (blk_lt (g := gb281) (o := .cells #[.int .i64 x282000_2, .int .i64 x282001_2, .int .i64 x282002_2] 22 (0, 0)) (by (with_reducible repeat (first | refine blk_drewN ?_ _ | refine blk_drew ?_ | refine blk_alloc ?_ _)); exact BK281.out)) : gb283 ≠ gb281)); clear HO_10; clear HO_14; clear BK236; clear BK281; clear HB; have HO_10 := n0_; have HO_14 := n1_; have BK236 := n2_; have BK281 := n3_; have HB := n4_; have BK283 := n5_; have GW283 := n6_; have GE283 := n7_; have NB236_283 := n8_; have NB283_236 := n9_; have NB281_283 := n10_; have NB283_281 := n11_; clear n0_ n1_ n2_ n3_ n4_ n5_ n6_ n7_ n8_ n9_ n10_ n11_; clear hb hbox hg; have hnb71 := NB283_236.out; have hnc71 := NB236_283.out; have hnb72 := NB283_281.out; have hnc72 := NB281_283.out; have hcz73_0 : w70.cell? ⟨gb283, 0, none⟩ = some (.bool false) := (blk_cell BK283.out 0).trans rfl; have hcz73_1 : w70.cell? ⟨gb283, 1, none⟩ = some (.int .i64 0) := (blk_cell BK283.out 1).trans rfl; have hcz73_2 : w70.cell? ⟨gb283, 2, none⟩ = some (.int .i64 0) := (blk_cell BK283.out 2).trans rfl; have hcz73_3 : w70.cell? ⟨gb283, 3, none⟩ = some (.int .i64 0) := (blk_cell BK283.out 3).trans rfl; have hcz73_4 : w70.cell? ⟨gb283, 4, none⟩ = some (.int .i64 0) := (blk_cell BK283.out 4).trans rfl; have hcz73_5 : w70.cell? ⟨gb283, 5, none⟩ = some (.int .i64 0) := (blk_cell BK283.out 5).trans rfl; have hcz73_6 : w70.cell? ⟨gb283, 6, none⟩ = some (.int .i64 0) := (blk_cell BK283.out 6).trans rfl; have hfz73_0 := blk_frozen BK283.out 0; have hfz73_1 := blk_frozen BK283.out 1; have hfz73_2 := blk_frozen BK283.out 2; have hfz73_3 := blk_frozen BK283.out 3; have hfz73_4 := blk_frozen BK283.out 4; have hfz73_5 := blk_frozen BK283.out 5; have hfz73_6 := blk_frozen BK283.out 6))
            (try simp only [Act.put, List.setIfInBounds_toArray, List.set_cons_zero, List.set_cons_succ])
            go_cut [161] (fun v161 wc => ∃ (kq : Nat) (x161_67 : Bool), v161 = .bool x161_67 ∧ Aside0 (tripartitelaw06_ChunkLists.j2 kq t237 t238 t239 t254 t259 t268 x17_2 x161_67 ((rd_T40 t254 x17_2).f0) ((rd_T40 t254 x17_2).f1.f0) ((rd_T40 t254 x17_2).f1.f1) ((rd_T40 t254 x17_2).f2.f0) ((rd_T40 t254 x17_2).f2.f1) ((rd_T40 t254 x17_2).f3.f0) ((rd_T40 t254 x17_2).f3.f1) = some r) ∧ Aside0 (kq ≤ k2) ∧ Aside0 (Kd.R k40 40 wc w.heap.size (fun k_ => some k_ ≠ (v270 : Value).ownBlock ∧ k_ ≠ gb283) (.slice (some ad282) t254.length co69) t254) ∧ Aside0 (Kd.R k40 40 wc w.heap.size (fun k_ => some k_ ≠ ((.slice (some ad282) t254.length co69) : Value).ownBlock ∧ k_ ≠ gb283) v270 t268) ∧ Aside0 (wc.heap[gb236]? = some (.cells #[.int .i64 a0_0, .int .i64 a0_1, .int .i64 a0_2] 22 (0, 0))) ∧ Aside0 (wc.heap[gb281]? = some (.cells #[.int .i64 x282000_2, .int .i64 x282001_2, .int .i64 x282002_2] 22 (0, 0))) ∧ Aside0 (wc.heap[gb283]? = some (.cells #[.bool ((rd_T40 t254 x17_2).f0), .int .i64 ((rd_T40 t254 x17_2).f1.f0), .int .i64 ((rd_T40 t254 x17_2).f1.f1), .int .i64 ((rd_T40 t254 x17_2).f2.f0), .int .i64 ((rd_T40 t254 x17_2).f2.f1), .int .i64 ((rd_T40 t254 x17_2).f3.f0), .int .i64 ((rd_T40 t254 x17_2).f3.f1)] 40 (0, 0))) ∧ Aside0 (Below w.heap.size w wc))
            case first =>
             have H := HC68.out
             clear HC68
             by_cases c74 : x17_2 < (t268.length : Int)
             ·rw [if_pos c74] at H
              have c74b0 : decide (x17_2 < (t268.length : Int)) = true := decide_eq_true c74
              clear c74
              (first | rw [c74b0] | (simp only [i64_w, i32_w]; rw [c74b0]) | skip)
              replace H := Option.bind_eq_some_iff.mp H
              obtain ⟨⟨t285, t286, t287, t288, t289, t290, t291⟩, A750, H⟩ := H
              replace H : ((tripartitelaw06_one.f t285 t286 t287 t288 t289 t290 t291).bind fun bt292 => ((tripartitelaw06_one.f ((rd_T40 t254 x17_2).f0) ((rd_T40 t254 x17_2).f1.f0) ((rd_T40 t254 x17_2).f1.f1) ((rd_T40 t254 x17_2).f2.f0) ((rd_T40 t254 x17_2).f2.f1) ((rd_T40 t254 x17_2).f3.f0) ((rd_T40 t254 x17_2).f3.f1)).bind fun bt299 => (if (!(bt292.1 == bt299.1) || ((!(bt292.2.1 == bt299.2.1) || (!(bt292.2.2.1 == bt299.2.2.1))) || ((!(bt292.2.2.2.1 == bt299.2.2.2.1) || (!(bt292.2.2.2.2.1 == bt299.2.2.2.2.1))) || ((!(bt292.2.2.2.2.2.1 == bt299.2.2.2.2.2.1) || (!(bt292.2.2.2.2.2.2 == bt299.2.2.2.2.2.2))))))) = true then (none) else (if ((rd_T40 t254 x17_2).f1.f0) = x282000_2 then (if ((rd_T40 t254 x17_2).f2.f0) = x282001_2 then (if ((rd_T40 t254 x17_2).f3.f0) = x282002_2 then (if x17_2 > 0 then (if 0 ≤ (wrap64 (x17_2 - 1)) then (if (wrap64 (x17_2 - 1)) < (t254.length : Int) then (tripartitelaw06_ChunkLists.j2 k2 t237 t238 t239 t254 t259 t268 x17_2 (((rd_T40 t254 (wrap64 (x17_2 - 1))).f0) == ((rd_T40 t254 x17_2).f0)) ((rd_T40 t254 x17_2).f0) ((rd_T40 t254 x17_2).f1.f0) ((rd_T40 t254 x17_2).f1.f1) ((rd_T40 t254 x17_2).f2.f0) ((rd_T40 t254 x17_2).f2.f1) ((rd_T40 t254 x17_2).f3.f0) ((rd_T40 t254 x17_2).f3.f1)) else (none)) else (none)) else (tripartitelaw06_ChunkLists.j2 k2 t237 t238 t239 t254 t259 t268 x17_2 false ((rd_T40 t254 x17_2).f0) ((rd_T40 t254 x17_2).f1.f0) ((rd_T40 t254 x17_2).f1.f1) ((rd_T40 t254 x17_2).f2.f0) ((rd_T40 t254 x17_2).f2.f1) ((rd_T40 t254 x17_2).f3.f0) ((rd_T40 t254 x17_2).f3.f1))) else (none)) else (none)) else (none))))) = some r := H
              have A75 := Aside0.mk A750
              clear A750
              replace H := Option.bind_eq_some_iff.mp H
              obtain ⟨⟨t292, t293, t294, t295, t296, t297, t298⟩, A760, H⟩ := H
              replace H : ((tripartitelaw06_one.f ((rd_T40 t254 x17_2).f0) ((rd_T40 t254 x17_2).f1.f0) ((rd_T40 t254 x17_2).f1.f1) ((rd_T40 t254 x17_2).f2.f0) ((rd_T40 t254 x17_2).f2.f1) ((rd_T40 t254 x17_2).f3.f0) ((rd_T40 t254 x17_2).f3.f1)).bind fun bt299 => (if (!(t292 == bt299.1) || ((!(t293 == bt299.2.1) || (!(t294 == bt299.2.2.1))) || ((!(t295 == bt299.2.2.2.1) || (!(t296 == bt299.2.2.2.2.1))) || ((!(t297 == bt299.2.2.2.2.2.1) || (!(t298 == bt299.2.2.2.2.2.2))))))) = true then (none) else (if ((rd_T40 t254 x17_2).f1.f0) = x282000_2 then (if ((rd_T40 t254 x17_2).f2.f0) = x282001_2 then (if ((rd_T40 t254 x17_2).f3.f0) = x282002_2 then (if x17_2 > 0 then (if 0 ≤ (wrap64 (x17_2 - 1)) then (if (wrap64 (x17_2 - 1)) < (t254.length : Int) then (tripartitelaw06_ChunkLists.j2 k2 t237 t238 t239 t254 t259 t268 x17_2 (((rd_T40 t254 (wrap64 (x17_2 - 1))).f0) == ((rd_T40 t254 x17_2).f0)) ((rd_T40 t254 x17_2).f0) ((rd_T40 t254 x17_2).f1.f0) ((rd_T40 t254 x17_2).f1.f1) ((rd_T40 t254 x17_2).f2.f0) ((rd_T40 t254 x17_2).f2.f1) ((rd_T40 t254 x17_2).f3.f0) ((rd_T40 t254 x17_2).f3.f1)) else (none)) else (none)) else (tripartitelaw06_ChunkLists.j2 k2 t237 t238 t239 t254 t259 t268 x17_2 false ((rd_T40 t254 x17_2).f0) ((rd_T40 t254 x17_2).f1.f0) ((rd_T40 t254 x17_2).f1.f1) ((rd_T40 t254 x17_2).f2.f0) ((rd_T40 t254 x17_2).f2.f1) ((rd_T40 t254 x17_2).f3.f0) ((rd_T40 t254 x17_2).f3.f1))) else (none)) else (none)) else (none)))) = some r := H
              have A76 := Aside0.mk A760
              clear A760
              replace H := Option.bind_eq_some_iff.mp H
              obtain ⟨⟨t299, t300, t301, t302, t303, t304, t305⟩, A770, H⟩ := H
              replace H : (if (!(t292 == t299) || ((!(t293 == t300) || (!(t294 == t301))) || ((!(t295 == t302) || (!(t296 == t303))) || ((!(t297 == t304) || (!(t298 == t305))))))) = true then (none) else (if ((rd_T40 t254 x17_2).f1.f0) = x282000_2 then (if ((rd_T40 t254 x17_2).f2.f0) = x282001_2 then (if ((rd_T40 t254 x17_2).f3.f0) = x282002_2 then (if x17_2 > 0 then (if 0 ≤ (wrap64 (x17_2 - 1)) then (if (wrap64 (x17_2 - 1)) < (t254.length : Int) then (tripartitelaw06_ChunkLists.j2 k2 t237 t238 t239 t254 t259 t268 x17_2 (((rd_T40 t254 (wrap64 (x17_2 - 1))).f0) == ((rd_T40 t254 x17_2).f0)) ((rd_T40 t254 x17_2).f0) ((rd_T40 t254 x17_2).f1.f0) ((rd_T40 t254 x17_2).f1.f1) ((rd_T40 t254 x17_2).f2.f0) ((rd_T40 t254 x17_2).f2.f1) ((rd_T40 t254 x17_2).f3.f0) ((rd_T40 t254 x17_2).f3.f1)) else (none)) else (none)) else (tripartitelaw06_ChunkLists.j2 k2 t237 t238 t239 t254 t259 t268 x17_2 false ((rd_T40 t254 x17_2).f0) ((rd_T40 t254 x17_2).f1.f0) ((rd_T40 t254 x17_2).f1.f1) ((rd_T40 t254 x17_2).f2.f0) ((rd_T40 t254 x17_2).f2.f1) ((rd_T40 t254 x17_2).f3.f0) ((rd_T40 t254 x17_2).f3.f1))) else (none)) else (none)) else (none))) = some r := H
              have A77 := Aside0.mk A770
              clear A770
              by_cases c78 : (!(t292 == t299) || ((!(t293 == t300) || (!(t294 == t301))) || ((!(t295 == t302) || (!(t296 == t303))) || ((!(t297 == t304) || (!(t298 == t305))))))) = true
              ·rw [if_pos c78] at H
               exact absurd H (by simp)
              ·rw [if_neg c78] at H
               have c78b0 : (!(t292 == t299) || ((!(t293 == t300) || (!(t294 == t301))) || ((!(t295 == t302) || (!(t296 == t303))) || ((!(t297 == t304) || (!(t298 == t305))))))) = false := by simpa using c78
               clear c78
               by_cases c79 : ((rd_T40 t254 x17_2).f1.f0) = x282000_2
               ·rw [if_pos c79] at H
                have c79b0 : (((rd_T40 t254 x17_2).f1.f0) == x282000_2) = true := beq_iff_eq.mpr c79
                have c79b1 : (((rd_T40 t254 x17_2).f1.f0) != x282000_2) = false := bne_eq_false_iff_eq.mpr c79
                clear c79
                by_cases c80 : ((rd_T40 t254 x17_2).f2.f0) = x282001_2
                ·rw [if_pos c80] at H
                 have c80b0 : (((rd_T40 t254 x17_2).f2.f0) == x282001_2) = true := beq_iff_eq.mpr c80
                 have c80b1 : (((rd_T40 t254 x17_2).f2.f0) != x282001_2) = false := bne_eq_false_iff_eq.mpr c80
                 clear c80
                 by_cases c81 : ((rd_T40 t254 x17_2).f3.f0) = x282002_2
                 ·rw [if_pos c81] at H
                  have c81b0 : (((rd_T40 t254 x17_2).f3.f0) == x282002_2) = true := beq_iff_eq.mpr c81
                  have c81b1 : (((rd_T40 t254 x17_2).f3.f0) != x282002_2) = false := bne_eq_false_iff_eq.mpr c81
                  clear c81
                  by_cases c82 : x17_2 > 0
                  ·rw [if_pos c82] at H
                   have c82b0 : decide (0 < x17_2) = true := decide_eq_true c82
                   clear c82
                   obtain ⟨ji83, hji83⟩ : ∃ j_ : Int, (wrap64 (x17_2 - 1)) = j_ := ⟨_, rfl⟩
                   replace H : (if 0 ≤ (ji83) then (if (ji83) < (t254.length : Int) then (tripartitelaw06_ChunkLists.j2 k2 t237 t238 t239 t254 t259 t268 x17_2 (((rd_T40 t254 (ji83)).f0) == ((rd_T40 t254 x17_2).f0)) ((rd_T40 t254 x17_2).f0) ((rd_T40 t254 x17_2).f1.f0) ((rd_T40 t254 x17_2).f1.f1) ((rd_T40 t254 x17_2).f2.f0) ((rd_T40 t254 x17_2).f2.f1) ((rd_T40 t254 x17_2).f3.f0) ((rd_T40 t254 x17_2).f3.f1)) else (none)) else (none)) = some r := by first | (rw [hji83] at H; exact H) | (simp only [hji83] at H ⊢; exact H)
                   (try rw [hji83] at A75)
                   (try rw [hji83] at A76)
                   (try rw [hji83] at A77)
                   have hji83w : (IntKind.i64.wrap (x17_2 - 1)) = ji83 := (i64_w _).trans hji83
                   by_cases c84 : 0 ≤ (ji83)
                   ·rw [if_pos c84] at H
                    have c84b0 : decide (0 ≤ (ji83)) = true := decide_eq_true c84
                    clear c84
                    by_cases c85 : (ji83) < (t254.length : Int)
                    ·rw [if_pos c85] at H
                     have c85b0 : decide ((ji83) < (t254.length : Int)) = true := decide_eq_true c85
                     clear c85
                     have H' := Aside0.mk H
                     clear H
                     try go_wp2
                     have n0_ : Aside0 (Kd.R k40 40 (((((((w70.setCell ⟨gb283, 0, none⟩ (.bool ((rd_T40 t254 x17_2).f0))).setCell ⟨gb283, 1, none⟩ (.int .i64 ((rd_T40 t254 x17_2).f1.f0))).setCell ⟨gb283, 2, none⟩ (.int .i64 ((rd_T40 t254 x17_2).f1.f1))).setCell ⟨gb283, 3, none⟩ (.int .i64 ((rd_T40 t254 x17_2).f2.f0))).setCell ⟨gb283, 4, none⟩ (.int .i64 ((rd_T40 t254 x17_2).f2.f1))).setCell ⟨gb283, 5, none⟩ (.int .i64 ((rd_T40 t254 x17_2).f3.f0))).setCell ⟨gb283, 6, none⟩ (.int .i64 ((rd_T40 t254 x17_2).f3.f1))) w.heap.size (fun k_ => some k_ ≠ (v270 : Value).ownBlock ∧ k_ ≠ gb283) (.slice (some ad282) t254.length co69) t254) := ⟨by (with_reducible repeat (first | apply Kd.R_alloc | apply Kd.R_drewN | apply Kd.R_drew)); exact Kd.R_mono (Kd.R_far (p := ⟨gb283, 6, none⟩) (Kd.R_far (p := ⟨gb283, 5, none⟩) (Kd.R_far (p := ⟨gb283, 4, none⟩) (Kd.R_far (p := ⟨gb283, 3, none⟩) (Kd.R_far (p := ⟨gb283, 2, none⟩) (Kd.R_far (p := ⟨gb283, 1, none⟩) (Kd.R_far (p := ⟨gb283, 0, none⟩) (Kd.R_mono HO_10.out (fun k_ hk => (⟨hk, hk.2⟩ : _ ∧ k_ ≠ gb283))) (fun _ hk => hk.2) (.bool ((rd_T40 t254 x17_2).f0))) (fun _ hk => hk.2) (.int .i64 ((rd_T40 t254 x17_2).f1.f0))) (fun _ hk => hk.2) (.int .i64 ((rd_T40 t254 x17_2).f1.f1))) (fun _ hk => hk.2) (.int .i64 ((rd_T40 t254 x17_2).f2.f0))) (fun _ hk => hk.2) (.int .i64 ((rd_T40 t254 x17_2).f2.f1))) (fun _ hk => hk.2) (.int .i64 ((rd_T40 t254 x17_2).f3.f0))) (fun _ hk => hk.2) (.int .i64 ((rd_T40 t254 x17_2).f3.f1))) (fun _ hk => ⟨hk.1.1, hk.1.2⟩)⟩
                     have n1_ : Aside0 (Kd.R k40 40 (((((((w70.setCell ⟨gb283, 0, none⟩ (.bool ((rd_T40 t254 x17_2).f0))).setCell ⟨gb283, 1, none⟩ (.int .i64 ((rd_T40 t254 x17_2).f1.f0))).setCell ⟨gb283, 2, none⟩ (.int .i64 ((rd_T40 t254 x17_2).f1.f1))).setCell ⟨gb283, 3, none⟩ (.int .i64 ((rd_T40 t254 x17_2).f2.f0))).setCell ⟨gb283, 4, none⟩ (.int .i64 ((rd_T40 t254 x17_2).f2.f1))).setCell ⟨gb283, 5, none⟩ (.int .i64 ((rd_T40 t254 x17_2).f3.f0))).setCell ⟨gb283, 6, none⟩ (.int .i64 ((rd_T40 t254 x17_2).f3.f1))) w.heap.size (fun k_ => some k_ ≠ (.slice (some ad282) t254.length co69 : Value).ownBlock ∧ k_ ≠ gb283) v270 t268) := ⟨by (with_reducible repeat (first | apply Kd.R_alloc | apply Kd.R_drewN | apply Kd.R_drew)); exact Kd.R_mono (Kd.R_far (p := ⟨gb283, 6, none⟩) (Kd.R_far (p := ⟨gb283, 5, none⟩) (Kd.R_far (p := ⟨gb283, 4, none⟩) (Kd.R_far (p := ⟨gb283, 3, none⟩) (Kd.R_far (p := ⟨gb283, 2, none⟩) (Kd.R_far (p := ⟨gb283, 1, none⟩) (Kd.R_far (p := ⟨gb283, 0, none⟩) (Kd.R_mono HO_14.out (fun k_ hk => (⟨hk, hk.2⟩ : _ ∧ k_ ≠ gb283))) (fun _ hk => hk.2) (.bool ((rd_T40 t254 x17_2).f0))) (fun _ hk => hk.2) (.int .i64 ((rd_T40 t254 x17_2).f1.f0))) (fun _ hk => hk.2) (.int .i64 ((rd_T40 t254 x17_2).f1.f1))) (fun _ hk => hk.2) (.int .i64 ((rd_T40 t254 x17_2).f2.f0))) (fun _ hk => hk.2) (.int .i64 ((rd_T40 t254 x17_2).f2.f1))) (fun _ hk => hk.2) (.int .i64 ((rd_T40 t254 x17_2).f3.f0))) (fun _ hk => hk.2) (.int .i64 ((rd_T40 t254 x17_2).f3.f1))) (fun _ hk => ⟨hk.1.1, hk.1.2⟩)⟩
                     have n2_ : Aside0 ((((((((w70.setCell ⟨gb283, 0, none⟩ (.bool ((rd_T40 t254 x17_2).f0))).setCell ⟨gb283, 1, none⟩ (.int .i64 ((rd_T40 t254 x17_2).f1.f0))).setCell ⟨gb283, 2, none⟩ (.int .i64 ((rd_T40 t254 x17_2).f1.f1))).setCell ⟨gb283, 3, none⟩ (.int .i64 ((rd_T40 t254 x17_2).f2.f0))).setCell ⟨gb283, 4, none⟩ (.int .i64 ((rd_T40 t254 x17_2).f2.f1))).setCell ⟨gb283, 5, none⟩ (.int .i64 ((rd_T40 t254 x17_2).f3.f0))).setCell ⟨gb283, 6, none⟩ (.int .i64 ((rd_T40 t254 x17_2).f3.f1))).heap[gb236]? = some (.cells #[.int .i64 a0_0, .int .i64 a0_1, .int .i64 a0_2] 22 (0, 0))) := ⟨by (with_reducible repeat (first | refine blk_drewN ?_ _ | refine blk_drew ?_ | refine blk_alloc ?_ _)); refine blk_far ?_ NB236_283.out _; (with_reducible repeat (first | refine blk_drewN ?_ _ | refine blk_drew ?_ | refine blk_alloc ?_ _)); refine blk_far ?_ NB236_283.out _; (with_reducible repeat (first | refine blk_drewN ?_ _ | refine blk_drew ?_ | refine blk_alloc ?_ _)); refine blk_far ?_ NB236_283.out _; (with_reducible repeat (first | refine blk_drewN ?_ _ | refine blk_drew ?_ | refine blk_alloc ?_ _)); refine blk_far ?_ NB236_283.out _; (with_reducible repeat (first | refine blk_drewN ?_ _ | refine blk_drew ?_ | refine blk_alloc ?_ _)); refine blk_far ?_ NB236_283.out _; (with_reducible repeat (first | refine blk_drewN ?_ _ | refine blk_drew ?_ | refine blk_alloc ?_ _)); refine blk_far ?_ NB236_283.out _; (with_reducible repeat (first | refine blk_drewN ?_ _ | refine blk_drew ?_ | refine blk_alloc ?_ _)); refine blk_far ?_ NB236_283.out _; (with_reducible repeat (first | refine blk_drewN ?_ _ | refine blk_drew ?_ | refine blk_alloc ?_ _)); exact BK236.out⟩
                     have n3_ : Aside0 ((((((((w70.setCell ⟨gb283, 0, none⟩ (.bool ((rd_T40 t254 x17_2).f0))).setCell ⟨gb283, 1, none⟩ (.int .i64 ((rd_T40 t254 x17_2).f1.f0))).setCell ⟨gb283, 2, none⟩ (.int .i64 ((rd_T40 t254 x17_2).f1.f1))).setCell ⟨gb283, 3, none⟩ (.int .i64 ((rd_T40 t254 x17_2).f2.f0))).setCell ⟨gb283, 4, none⟩ (.int .i64 ((rd_T40 t254 x17_2).f2.f1))).setCell ⟨gb283, 5, none⟩ (.int .i64 ((rd_T40 t254 x17_2).f3.f0))).setCell ⟨gb283, 6, none⟩ (.int .i64 ((rd_T40 t254 x17_2).f3.f1))).heap[gb281]? = some (.cells #[.int .i64 x282000_2, .int .i64 x282001_2, .int .i64 x282002_2] 22 (0, 0))) := ⟨by (with_reducible repeat (first | refine blk_drewN ?_ _ | refine blk_drew ?_ | refine blk_alloc ?_ _)); refine blk_far ?_ NB281_283.out _; (with_reducible repeat (first | refine blk_drewN ?_ _ | refine blk_drew ?_ | refine blk_alloc ?_ _)); refine blk_far ?_ NB281_283.out _; (with_reducible repeat (first | refine blk_drewN ?_ _ | refine blk_drew ?_ | refine blk_alloc ?_ _)); refine blk_far ?_ NB281_283.out _; (with_reducible repeat (first | refine blk_drewN ?_ _ | refine blk_drew ?_ | refine blk_alloc ?_ _)); refine blk_far ?_ NB281_283.out _; (with_reducible repeat (first | refine blk_drewN ?_ _ | refine blk_drew ?_ | refine blk_alloc ?_ _)); refine blk_far ?_ NB281_283.out _; (with_reducible repeat (first | refine blk_drewN ?_ _ | refine blk_drew ?_ | refine blk_alloc ?_ _)); refine blk_far ?_ NB281_283.out _; (with_reducible repeat (first | refine blk_drewN ?_ _ | refine blk_drew ?_ | refine blk_alloc ?_ _)); refine blk_far ?_ NB281_283.out _; (with_reducible repeat (first | refine blk_drewN ?_ _ | refine blk_drew ?_ | refine blk_alloc ?_ _)); exact BK281.out⟩
                     have n4_ : Aside0 ((((((((w70.setCell ⟨gb283, 0, none⟩ (.bool ((rd_T40 t254 x17_2).f0))).setCell ⟨gb283, 1, none⟩ (.int .i64 ((rd_T40 t254 x17_2).f1.f0))).setCell ⟨gb283, 2, none⟩ (.int .i64 ((rd_T40 t254 x17_2).f1.f1))).setCell ⟨gb283, 3, none⟩ (.int .i64 ((rd_T40 t254 x17_2).f2.f0))).setCell ⟨gb283, 4, none⟩ (.int .i64 ((rd_T40 t254 x17_2).f2.f1))).setCell ⟨gb283, 5, none⟩ (.int .i64 ((rd_T40 t254 x17_2).f3.f0))).setCell ⟨gb283, 6, none⟩ (.int .i64 ((rd_T40 t254 x17_2).f3.f1))).heap[gb283]? = some (.cells #[.bool ((rd_T40 t254 x17_2).f0), .int .i64 ((rd_T40 t254 x17_2).f1.f0), .int .i64 ((rd_T40 t254 x17_2).f1.f1), .int .i64 ((rd_T40 t254 x17_2).f2.f0), .int .i64 ((rd_T40 t254 x17_2).f2.f1), .int .i64 ((rd_T40 t254 x17_2).f3.f0), .int .i64 ((rd_T40 t254 x17_2).f3.f1)] 40 (0, 0))) := ⟨by (with_reducible repeat (first | refine blk_drewN ?_ _ | refine blk_drew ?_ | refine blk_alloc ?_ _)); refine blk_put (cs := #[.bool ((rd_T40 t254 x17_2).f0), .int .i64 ((rd_T40 t254 x17_2).f1.f0), .int .i64 ((rd_T40 t254 x17_2).f1.f1), .int .i64 ((rd_T40 t254 x17_2).f2.f0), .int .i64 ((rd_T40 t254 x17_2).f2.f1), .int .i64 ((rd_T40 t254 x17_2).f3.f0), .int .i64 0]) ?_ 6 _ rfl; (with_reducible repeat (first | refine blk_drewN ?_ _ | refine blk_drew ?_ | refine blk_alloc ?_ _)); refine blk_put (cs := #[.bool ((rd_T40 t254 x17_2).f0), .int .i64 ((rd_T40 t254 x17_2).f1.f0), .int .i64 ((rd_T40 t254 x17_2).f1.f1), .int .i64 ((rd_T40 t254 x17_2).f2.f0), .int .i64 ((rd_T40 t254 x17_2).f2.f1), .int .i64 0, .int .i64 0]) ?_ 5 _ rfl; (with_reducible repeat (first | refine blk_drewN ?_ _ | refine blk_drew ?_ | refine blk_alloc ?_ _)); refine blk_put (cs := #[.bool ((rd_T40 t254 x17_2).f0), .int .i64 ((rd_T40 t254 x17_2).f1.f0), .int .i64 ((rd_T40 t254 x17_2).f1.f1), .int .i64 ((rd_T40 t254 x17_2).f2.f0), .int .i64 0, .int .i64 0, .int .i64 0]) ?_ 4 _ rfl; (with_reducible repeat (first | refine blk_drewN ?_ _ | refine blk_drew ?_ | refine blk_alloc ?_ _)); refine blk_put (cs := #[.bool ((rd_T40 t254 x17_2).f0), .int .i64 ((rd_T40 t254 x17_2).f1.f0), .int .i64 ((rd_T40 t254 x17_2).f1.f1), .int .i64 0, .int .i64 0, .int .i64 0, .int .i64 0]) ?_ 3 _ rfl; (with_reducible repeat (first | refine blk_drewN ?_ _ | refine blk_drew ?_ | refine blk_alloc ?_ _)); refine blk_put (cs := #[.bool ((rd_T40 t254 x17_2).f0), .int .i64 ((rd_T40 t254 x17_2).f1.f0), .int .i64 0, .int .i64 0, .int .i64 0, .int .i64 0, .int .i64 0]) ?_ 2 _ rfl; (with_reducible repeat (first | refine blk_drewN ?_ _ | refine blk_drew ?_ | refine blk_alloc ?_ _)); refine blk_put (cs := #[.bool ((rd_T40 t254 x17_2).f0), .int .i64 0, .int .i64 0, .int .i64 0, .int .i64 0, .int .i64 0, .int .i64 0]) ?_ 1 _ rfl; (with_reducible repeat (first | refine blk_drewN ?_ _ | refine blk_drew ?_ | refine blk_alloc ?_ _)); refine blk_put (cs := #[.bool false, .int .i64 0, .int .i64 0, .int .i64 0, .int .i64 0, .int .i64 0, .int .i64 0]) ?_ 0 _ rfl; (with_reducible repeat (first | refine blk_drewN ?_ _ | refine blk_drew ?_ | refine blk_alloc ?_ _)); exact BK283.out⟩
                     have n5_ : Aside0 (Below w.heap.size w (((((((w70.setCell ⟨gb283, 0, none⟩ (.bool ((rd_T40 t254 x17_2).f0))).setCell ⟨gb283, 1, none⟩ (.int .i64 ((rd_T40 t254 x17_2).f1.f0))).setCell ⟨gb283, 2, none⟩ (.int .i64 ((rd_T40 t254 x17_2).f1.f1))).setCell ⟨gb283, 3, none⟩ (.int .i64 ((rd_T40 t254 x17_2).f2.f0))).setCell ⟨gb283, 4, none⟩ (.int .i64 ((rd_T40 t254 x17_2).f2.f1))).setCell ⟨gb283, 5, none⟩ (.int .i64 ((rd_T40 t254 x17_2).f3.f0))).setCell ⟨gb283, 6, none⟩ (.int .i64 ((rd_T40 t254 x17_2).f3.f1)))) := ⟨by repeat (first | (with_reducible first | exact HB.out | apply below_alloc | apply pw_below_drewN | apply below_drew1 | refine below_set ?_ GE236.out | refine below_set ?_ GE281.out | refine below_set ?_ GE283.out) | exact HB.out)⟩
                     generalize (((((((w70.setCell ⟨gb283, 0, none⟩ (.bool ((rd_T40 t254 x17_2).f0))).setCell ⟨gb283, 1, none⟩ (.int .i64 ((rd_T40 t254 x17_2).f1.f0))).setCell ⟨gb283, 2, none⟩ (.int .i64 ((rd_T40 t254 x17_2).f1.f1))).setCell ⟨gb283, 3, none⟩ (.int .i64 ((rd_T40 t254 x17_2).f2.f0))).setCell ⟨gb283, 4, none⟩ (.int .i64 ((rd_T40 t254 x17_2).f2.f1))).setCell ⟨gb283, 5, none⟩ (.int .i64 ((rd_T40 t254 x17_2).f3.f0))).setCell ⟨gb283, 6, none⟩ (.int .i64 ((rd_T40 t254 x17_2).f3.f1))) = w86 at n0_ n1_ n2_ n3_ n4_ n5_ ⊢
                     have HO_10 := n0_
                     have HO_14 := n1_
                     have BK236 := n2_
                     have BK281 := n3_
                     have BK283 := n4_
                     have HB := n5_
                     clear n0_ n1_ n2_ n3_ n4_ n5_
                     have n0_ := Aside0.mk (Kd.R_drew HO_10.out)
                     have n1_ := Aside0.mk (Kd.R_drew HO_14.out)
                     have n2_ := Aside0.mk (blk_drew BK236.out)
                     have n3_ := Aside0.mk (blk_drew BK281.out)
                     have n4_ := Aside0.mk (blk_drew BK283.out)
                     have n5_ := Aside0.mk (below_drew1 HB.out)
                     clear HO_10
                     clear HO_14
                     clear BK236
                     clear BK281
                     clear BK283
                     clear HB
                     have HO_10 := n0_
                     have HO_14 := n1_
                     have BK236 := n2_
                     have BK281 := n3_
                     have BK283 := n4_
                     have HB := n5_
                     clear n0_ n1_ n2_ n3_ n4_ n5_
                     obtain ⟨Ao88, co88, eo88⟩ := Kd.R_slice HO_14.out
                     (first | subst eo88 | (injection eo88 with f1_ f2_ f3_; have f4_ := f1_.symm; have f5_ := f3_.symm; clear f1_ f2_ f3_; subst f4_; subst f5_))
                     have p284 : 0 ≤ (x17_2 : Int) := of_decide_eq_true (by first | (with_reducible assumption) | assumption)
                     have q284 : x17_2 < (t268.length : Int) := of_decide_eq_true (by first | (with_reducible assumption) | assumption)
                     obtain ⟨ad284, e284, hx284_0, hx284_1, hx284_2, hx284_3, hx284_4, hx284_5, hx284_6⟩ := at_T40 (Kd.R_reads' HO_14.out).2.2 x17_2 p284 q284
                     cases e284
                     replace p284 := eq_true p284
                     replace q284 := eq_true q284
                     have p306 : 0 ≤ ((ji83) : Int) := of_decide_eq_true (by first | (with_reducible assumption) | assumption)
                     have q306 : (ji83) < (t254.length : Int) := of_decide_eq_true (by first | (with_reducible assumption) | assumption)
                     obtain ⟨ad306, e306, hx306_0, hx306_1, hx306_2, hx306_3, hx306_4, hx306_5, hx306_6⟩ := at_T40 (Kd.R_reads' HO_10.out).2.2 (ji83) p306 q306
                     obtain rfl : ad282 = ad306 := (by injection e306)
                     replace p306 := eq_true p306
                     replace q306 := eq_true q306
                     refine start_ (n := 48) (S := fun w' => w'.cell? ⟨gb283, 0, none⟩ = some (.bool ((rd_T40 t254 x17_2).f0)) ∧ w'.cell? ⟨gb283, 1, none⟩ = some (.int .i64 ((rd_T40 t254 x17_2).f1.f0)) ∧ w'.cell? ⟨gb283, 2, none⟩ = some (.int .i64 ((rd_T40 t254 x17_2).f1.f1)) ∧ w'.cell? ⟨gb283, 3, none⟩ = some (.int .i64 ((rd_T40 t254 x17_2).f2.f0)) ∧ w'.cell? ⟨gb283, 4, none⟩ = some (.int .i64 ((rd_T40 t254 x17_2).f2.f1)) ∧ w'.cell? ⟨gb283, 5, none⟩ = some (.int .i64 ((rd_T40 t254 x17_2).f3.f0)) ∧ w'.cell? ⟨gb283, 6, none⟩ = some (.int .i64 ((rd_T40 t254 x17_2).f3.f1)) ∧ w'.cell? ⟨gb281, 0, none⟩ = some (.int .i64 x282000_2) ∧ w'.cell? ⟨gb281, 1, none⟩ = some (.int .i64 x282001_2) ∧ w'.cell? ⟨gb281, 2, none⟩ = some (.int .i64 x282002_2) ∧ w'.cell? (ad284.add ((x17_2).toNat * 7)) = some (.bool ((rd_T40 t268 x17_2).f0)) ∧ w'.cell? ⟨(ad284.add ((x17_2).toNat * 7)).block, (ad284.add ((x17_2).toNat * 7)).off + 1, none⟩ = some (.int .i64 ((rd_T40 t268 x17_2).f1.f0)) ∧ w'.cell? ⟨(ad284.add ((x17_2).toNat * 7)).block, (ad284.add ((x17_2).toNat * 7)).off + 2, none⟩ = some (.int .i64 ((rd_T40 t268 x17_2).f1.f1)) ∧ w'.cell? ⟨(ad284.add ((x17_2).toNat * 7)).block, (ad284.add ((x17_2).toNat * 7)).off + 3, none⟩ = some (.int .i64 ((rd_T40 t268 x17_2).f2.f0)) ∧ w'.cell? ⟨(ad284.add ((x17_2).toNat * 7)).block, (ad284.add ((x17_2).toNat * 7)).off + 4, none⟩ = some (.int .i64 ((rd_T40 t268 x17_2).f2.f1)) ∧ w'.cell? ⟨(ad284.add ((x17_2).toNat * 7)).block, (ad284.add ((x17_2).toNat * 7)).off + 5, none⟩ = some (.int .i64 ((rd_T40 t268 x17_2).f3.f0)) ∧ w'.cell? ⟨(ad284.add ((x17_2).toNat * 7)).block, (ad284.add ((x17_2).toNat * 7)).off + 6, none⟩ = some (.int .i64 ((rd_T40 t268 x17_2).f3.f1)) ∧ w'.cell? (ad282.add (((ji83)).toNat * 7)) = some (.bool ((rd_T40 t254 (ji83)).f0)) ∧ w'.cell? ⟨(ad282.add (((ji83)).toNat * 7)).block, (ad282.add (((ji83)).toNat * 7)).off + 1, none⟩ = some (.int .i64 ((rd_T40 t254 (ji83)).f1.f0)) ∧ w'.cell? ⟨(ad282.add (((ji83)).toNat * 7)).block, (ad282.add (((ji83)).toNat * 7)).off + 2, none⟩ = some (.int .i64 ((rd_T40 t254 (ji83)).f1.f1)) ∧ w'.cell? ⟨(ad282.add (((ji83)).toNat * 7)).block, (ad282.add (((ji83)).toNat * 7)).off + 3, none⟩ = some (.int .i64 ((rd_T40 t254 (ji83)).f2.f0)) ∧ w'.cell? ⟨(ad282.add (((ji83)).toNat * 7)).block, (ad282.add (((ji83)).toNat * 7)).off + 4, none⟩ = some (.int .i64 ((rd_T40 t254 (ji83)).f2.f1)) ∧ w'.cell? ⟨(ad282.add (((ji83)).toNat * 7)).block, (ad282.add (((ji83)).toNat * 7)).off + 5, none⟩ = some (.int .i64 ((rd_T40 t254 (ji83)).f3.f0)) ∧ w'.cell? ⟨(ad282.add (((ji83)).toNat * 7)).block, (ad282.add (((ji83)).toNat * 7)).off + 6, none⟩ = some (.int .i64 ((rd_T40 t254 (ji83)).f3.f1))) (ds := []) #[false, false, false, false, false, false, false, false, false, false, false, false, false, false, false, false, false, false, false, false, false, false, false, false, false, false, false, false, false, false, false, false, false, false, false, false, false, false, false, false, false, false, false, false, false, false, false, false] (by kernel_rfl) rfl rfl ⟨(blk_cell BK283.out 0).trans rfl, (blk_cell BK283.out 1).trans rfl, (blk_cell BK283.out 2).trans rfl, (blk_cell BK283.out 3).trans rfl, (blk_cell BK283.out 4).trans rfl, (blk_cell BK283.out 5).trans rfl, (blk_cell BK283.out 6).trans rfl, (blk_cell BK281.out 0).trans rfl, (blk_cell BK281.out 1).trans rfl, (blk_cell BK281.out 2).trans rfl, hx284_0, hx284_1, hx284_2, hx284_3, hx284_4, hx284_5, hx284_6, hx306_0, hx306_1, hx306_2, hx306_3, hx306_4, hx306_5, hx306_6⟩ (fun hHeld => ?_); refine with_tabW tripartitelaw06_ChunkLists.tab13 tripartitelaw06_ChunkLists.bits13 (fun HT_ HW_ => ?_)
                     generalize w86.drew = w87 at HO_10 HO_14 BK236 BK281 BK283 HB hx284_0 hx284_1 hx284_2 hx284_3 hx284_4 hx284_5 hx284_6 hx306_0 hx306_1 hx306_2 hx306_3 hx306_4 hx306_5 hx306_6 hHeld ⊢
                     refine pure_ (i := 0) (N := some 114) (v := ?_) (a' := ?_) #[true, false, false, false, false, false, false, false, false, false, false, false, false, false, false, false, false, false, false, false, false, false, false, false, false, false, false, false, false, false, false, false, false, false, false, false, false, false, false, false, false, false, false, false, false, false, false, false] rfl rfl (any_of HT_.out (by kernel_rfl)) (fun _ _ _ h => h) (Or.inl ⟨by rfl, ?_⟩) ?_ ?_
                     rotate_left
                     ·intro w'
                      go_simp
                      with_reducible rfl
                     rotate_left
                     ·simp only [Act.put, List.setIfInBounds_toArray, List.set_cons_zero, List.set_cons_succ, i64_w, i32_w]
                      rfl
                     refine pure_ (i := 1) (N := some 115) (v := ?_) (a' := ?_) #[true, true, false, false, false, false, false, false, false, false, false, false, false, false, false, false, false, false, false, false, false, false, false, false, false, false, false, false, false, false, false, false, false, false, false, false, false, false, false, false, false, false, false, false, false, false, false, false] rfl rfl (any_of HT_.out (by kernel_rfl)) (fun _ _ _ h => h) (Or.inl ⟨by rfl, ?_⟩) ?_ ?_
                     rotate_left
                     ·intro w'
                      go_simp
                      with_reducible rfl
                     rotate_left
                     ·simp only [Act.put, List.setIfInBounds_toArray, List.set_cons_zero, List.set_cons_succ, i64_w, i32_w]
                      rfl
                     refine pure_ (i := 2) (N := some 116) (v := ?_) (a' := ?_) #[true, true, true, false, false, false, false, false, false, false, false, false, false, false, false, false, false, false, false, false, false, false, false, false, false, false, false, false, false, false, false, false, false, false, false, false, false, false, false, false, false, false, false, false, false, false, false, false] rfl rfl (any_of HT_.out (by kernel_rfl)) (fun _ _ _ h => h) (Or.inl ⟨by rfl, ?_⟩) ?_ ?_
                     rotate_left
                     ·intro w'
                      go_simp
                      with_reducible rfl
                     rotate_left
                     ·simp only [Act.put, List.setIfInBounds_toArray, List.set_cons_zero, List.set_cons_succ, i64_w, i32_w]
                      rfl
                     refine take_ (i := 3) (N := some 117) (v := ?_) (a' := ?_) #[true, true, true, true, false, false, false, false, false, false, false, false, false, false, false, false, false, false, false, false, false, false, false, false, false, false, false, false, false, false, false, false, false, false, false, false, false, false, false, false, false, false, false, false, false, false, false, false] rfl rfl (take_ofW HT_.out HW_.out (by kernel_rfl)) (fun _ _ _ h => h) (Or.inl ⟨by rfl, ?_⟩) hHeld ?_ ?_
                     rotate_left
                     ·rintro w' ⟨s0, s1, s2, s3, s4, s5, s6, s7, s8, s9, s10, s11, s12, s13, s14, s15, s16, s17, s18, s19, s20, s21, s22, s23⟩
                      go_simp
                      with_reducible rfl
                     rotate_left
                     ·simp only [Act.put, List.setIfInBounds_toArray, List.set_cons_zero, List.set_cons_succ, i64_w, i32_w]
                      rfl
                     refine take_ (i := 6) (N := some 120) (v := ?_) (a' := ?_) #[true, true, true, true, false, false, true, false, false, false, false, false, false, false, false, false, false, false, false, false, false, false, false, false, false, false, false, false, false, false, false, false, false, false, false, false, false, false, false, false, false, false, false, false, false, false, false, false] rfl rfl (take_ofW HT_.out HW_.out (by kernel_rfl)) (fun _ _ _ h => h) (Or.inl ⟨by rfl, ?_⟩) hHeld ?_ ?_
                     rotate_left
                     ·rintro w' ⟨s0, s1, s2, s3, s4, s5, s6, s7, s8, s9, s10, s11, s12, s13, s14, s15, s16, s17, s18, s19, s20, s21, s22, s23⟩
                      go_simp
                      with_reducible rfl
                     rotate_left
                     ·simp only [Act.put, List.setIfInBounds_toArray, List.set_cons_zero, List.set_cons_succ, i64_w, i32_w]
                      rfl
                     refine one_ (i := 4) (N := some 118) #[true, true, true, true, true, false, true, false, false, false, false, false, false, false, false, false, false, false, false, false, false, false, false, false, false, false, false, false, false, false, false, false, false, false, false, false, false, false, false, false, false, false, false, false, false, false, false, false] rfl rfl (one_of HT_.out (by kernel_rfl)) (by decide) (fun K hK => ?_)
                     refine goes_ Try.func13 (by kernel_rfl) rfl #[.agg #[.bool ((rd_T40 t268 x17_2).f0), .int .i64 ((rd_T40 t268 x17_2).f1.f0), .int .i64 ((rd_T40 t268 x17_2).f1.f1), .int .i64 ((rd_T40 t268 x17_2).f2.f0), .int .i64 ((rd_T40 t268 x17_2).f2.f1), .int .i64 ((rd_T40 t268 x17_2).f3.f0), .int .i64 ((rd_T40 t268 x17_2).f3.f1)]] (by rfl) rfl rfl (by (try simp only [List.map_toArray, List.map_cons, List.map_nil]); first | done | rfl | (simp only [List.length_drop, List.length_take]; rfl)) ?_
                     with_reducible refine (chunk_Chunk_Turned.calls ((rd_T40 t268 x17_2).f0) ((rd_T40 t268 x17_2).f1.f0) ((rd_T40 t268 x17_2).f1.f1) ((rd_T40 t268 x17_2).f2.f0) ((rd_T40 t268 x17_2).f2.f1) ((rd_T40 t268 x17_2).f3.f0) ((rd_T40 t268 x17_2).f3.f1) t285 t286 t287 t288 t289 t290 t291 _ A75.out).mono ?_
                     rintro e w89 ⟨rfl, hb⟩
                     have HS10_ := (hb.cell (World.block_lt_of_cell? _ _ (hHeld.2.2.2.2.2.2.2.2.2.2.1))).trans (hHeld.2.2.2.2.2.2.2.2.2.2.1)
                     have HS11_ := (hb.cell (World.block_lt_of_cell? _ _ (hHeld.2.2.2.2.2.2.2.2.2.2.2.1))).trans (hHeld.2.2.2.2.2.2.2.2.2.2.2.1)
                     have HS12_ := (hb.cell (World.block_lt_of_cell? _ _ (hHeld.2.2.2.2.2.2.2.2.2.2.2.2.1))).trans (hHeld.2.2.2.2.2.2.2.2.2.2.2.2.1)
                     have HS13_ := (hb.cell (World.block_lt_of_cell? _ _ (hHeld.2.2.2.2.2.2.2.2.2.2.2.2.2.1))).trans (hHeld.2.2.2.2.2.2.2.2.2.2.2.2.2.1)
                     have HS14_ := (hb.cell (World.block_lt_of_cell? _ _ (hHeld.2.2.2.2.2.2.2.2.2.2.2.2.2.2.1))).trans (hHeld.2.2.2.2.2.2.2.2.2.2.2.2.2.2.1)
                     have HS15_ := (hb.cell (World.block_lt_of_cell? _ _ (hHeld.2.2.2.2.2.2.2.2.2.2.2.2.2.2.2.1))).trans (hHeld.2.2.2.2.2.2.2.2.2.2.2.2.2.2.2.1)
                     have HS16_ := (hb.cell (World.block_lt_of_cell? _ _ (hHeld.2.2.2.2.2.2.2.2.2.2.2.2.2.2.2.2.1))).trans (hHeld.2.2.2.2.2.2.2.2.2.2.2.2.2.2.2.2.1)
                     have HS17_ := (hb.cell (World.block_lt_of_cell? _ _ (hHeld.2.2.2.2.2.2.2.2.2.2.2.2.2.2.2.2.2.1))).trans (hHeld.2.2.2.2.2.2.2.2.2.2.2.2.2.2.2.2.2.1)
                     have HS18_ := (hb.cell (World.block_lt_of_cell? _ _ (hHeld.2.2.2.2.2.2.2.2.2.2.2.2.2.2.2.2.2.2.1))).trans (hHeld.2.2.2.2.2.2.2.2.2.2.2.2.2.2.2.2.2.2.1)
                     have HS19_ := (hb.cell (World.block_lt_of_cell? _ _ (hHeld.2.2.2.2.2.2.2.2.2.2.2.2.2.2.2.2.2.2.2.1))).trans (hHeld.2.2.2.2.2.2.2.2.2.2.2.2.2.2.2.2.2.2.2.1)
                     have HS20_ := (hb.cell (World.block_lt_of_cell? _ _ (hHeld.2.2.2.2.2.2.2.2.2.2.2.2.2.2.2.2.2.2.2.2.1))).trans (hHeld.2.2.2.2.2.2.2.2.2.2.2.2.2.2.2.2.2.2.2.2.1)
                     have HS21_ := (hb.cell (World.block_lt_of_cell? _ _ (hHeld.2.2.2.2.2.2.2.2.2.2.2.2.2.2.2.2.2.2.2.2.2.1))).trans (hHeld.2.2.2.2.2.2.2.2.2.2.2.2.2.2.2.2.2.2.2.2.2.1)
                     have HS22_ := (hb.cell (World.block_lt_of_cell? _ _ (hHeld.2.2.2.2.2.2.2.2.2.2.2.2.2.2.2.2.2.2.2.2.2.2.1))).trans (hHeld.2.2.2.2.2.2.2.2.2.2.2.2.2.2.2.2.2.2.2.2.2.2.1)
                     have HS23_ := (hb.cell (World.block_lt_of_cell? _ _ (hHeld.2.2.2.2.2.2.2.2.2.2.2.2.2.2.2.2.2.2.2.2.2.2.2))).trans (hHeld.2.2.2.2.2.2.2.2.2.2.2.2.2.2.2.2.2.2.2.2.2.2.2)
                     refine ⟨_, rfl, ?_⟩
                     have n0_ := Aside0.mk (Kd.R_below (by (with_reducible repeat (first | apply Kd.R_alloc | apply Kd.R_drewN | apply Kd.R_drew)); exact HO_10.out) hb)
                     have n1_ := Aside0.mk (Kd.R_below (by (with_reducible repeat (first | apply Kd.R_alloc | apply Kd.R_drewN | apply Kd.R_drew)); exact HO_14.out) hb)
                     have n2_ := Aside0.mk (blk_below (g := gb236) (o := .cells #[.int .i64 a0_0, .int .i64 a0_1, .int .i64 a0_2] 22 (0, 0)) (by (with_reducible repeat (first | refine blk_drewN ?_ _ | refine blk_drew ?_ | refine blk_alloc ?_ _)); exact BK236.out) hb)
                     have n3_ := Aside0.mk (blk_below (g := gb281) (o := .cells #[.int .i64 x282000_2, .int .i64 x282001_2, .int .i64 x282002_2] 22 (0, 0)) (by (with_reducible repeat (first | refine blk_drewN ?_ _ | refine blk_drew ?_ | refine blk_alloc ?_ _)); exact BK281.out) hb)
                     have n4_ := Aside0.mk (blk_below (g := gb283) (o := .cells #[.bool ((rd_T40 t254 x17_2).f0), .int .i64 ((rd_T40 t254 x17_2).f1.f0), .int .i64 ((rd_T40 t254 x17_2).f1.f1), .int .i64 ((rd_T40 t254 x17_2).f2.f0), .int .i64 ((rd_T40 t254 x17_2).f2.f1), .int .i64 ((rd_T40 t254 x17_2).f3.f0), .int .i64 ((rd_T40 t254 x17_2).f3.f1)] 40 (0, 0)) (by (with_reducible repeat (first | refine blk_drewN ?_ _ | refine blk_drew ?_ | refine blk_alloc ?_ _)); exact BK283.out) hb)
                     have n5_ := Aside0.mk (below_step (by repeat (first | (with_reducible first | exact HB.out | apply below_alloc | apply pw_below_drewN | apply below_drew1 | refine below_set ?_ GE236.out | refine below_set ?_ GE281.out | refine below_set ?_ GE283.out) | exact HB.out)) hb)
                     clear HO_10
                     clear HO_14
                     clear BK236
                     clear BK281
                     clear BK283
                     clear HB
                     have HO_10 := n0_
                     have HO_14 := n1_
                     have BK236 := n2_
                     have BK281 := n3_
                     have BK283 := n4_
                     have HB := n5_
                     clear n0_ n1_ n2_ n3_ n4_ n5_
                     refine hK.out _ _ ⟨(blk_cell BK283.out 0).trans rfl, (blk_cell BK283.out 1).trans rfl, (blk_cell BK283.out 2).trans rfl, (blk_cell BK283.out 3).trans rfl, (blk_cell BK283.out 4).trans rfl, (blk_cell BK283.out 5).trans rfl, (blk_cell BK283.out 6).trans rfl, (blk_cell BK281.out 0).trans rfl, (blk_cell BK281.out 1).trans rfl, (blk_cell BK281.out 2).trans rfl, HS10_, HS11_, HS12_, HS13_, HS14_, HS15_, HS16_, HS17_, HS18_, HS19_, HS20_, HS21_, HS22_, HS23_⟩ (fun hHeld => ?_)
                     clear hK K
                     refine norm_ (a' := ?_) ?_ ?_
                     rotate_left
                     ·show Act.put _ (some 118) _ = _
                      simp only [Act.put, List.setIfInBounds_toArray, List.set_cons_zero, List.set_cons_succ, i64_w, i32_w]
                      rfl
                     refine one_ (i := 5) (N := some 119) #[true, true, true, true, true, true, true, false, false, false, false, false, false, false, false, false, false, false, false, false, false, false, false, false, false, false, false, false, false, false, false, false, false, false, false, false, false, false, false, false, false, false, false, false, false, false, false, false] rfl rfl (one_of HT_.out (by kernel_rfl)) (by decide) (fun K hK => ?_)
                     refine goes_ Try.func12 (by kernel_rfl) rfl #[.agg #[.bool t285, .int .i64 t286, .int .i64 t287, .int .i64 t288, .int .i64 t289, .int .i64 t290, .int .i64 t291]] (by rfl) rfl rfl (by (try simp only [List.map_toArray, List.map_cons, List.map_nil]); first | done | rfl | (simp only [List.length_drop, List.length_take]; rfl)) ?_
                     with_reducible refine (tripartitelaw06_one.calls t285 t286 t287 t288 t289 t290 t291 t292 t293 t294 t295 t296 t297 t298 _ A76.out).mono ?_
                     rintro e w90 ⟨rfl, hb⟩
                     have HS10_ := (hb.cell (World.block_lt_of_cell? _ _ (hHeld.2.2.2.2.2.2.2.2.2.2.1))).trans (hHeld.2.2.2.2.2.2.2.2.2.2.1)
                     have HS11_ := (hb.cell (World.block_lt_of_cell? _ _ (hHeld.2.2.2.2.2.2.2.2.2.2.2.1))).trans (hHeld.2.2.2.2.2.2.2.2.2.2.2.1)
                     have HS12_ := (hb.cell (World.block_lt_of_cell? _ _ (hHeld.2.2.2.2.2.2.2.2.2.2.2.2.1))).trans (hHeld.2.2.2.2.2.2.2.2.2.2.2.2.1)
                     have HS13_ := (hb.cell (World.block_lt_of_cell? _ _ (hHeld.2.2.2.2.2.2.2.2.2.2.2.2.2.1))).trans (hHeld.2.2.2.2.2.2.2.2.2.2.2.2.2.1)
                     have HS14_ := (hb.cell (World.block_lt_of_cell? _ _ (hHeld.2.2.2.2.2.2.2.2.2.2.2.2.2.2.1))).trans (hHeld.2.2.2.2.2.2.2.2.2.2.2.2.2.2.1)
                     have HS15_ := (hb.cell (World.block_lt_of_cell? _ _ (hHeld.2.2.2.2.2.2.2.2.2.2.2.2.2.2.2.1))).trans (hHeld.2.2.2.2.2.2.2.2.2.2.2.2.2.2.2.1)
                     have HS16_ := (hb.cell (World.block_lt_of_cell? _ _ (hHeld.2.2.2.2.2.2.2.2.2.2.2.2.2.2.2.2.1))).trans (hHeld.2.2.2.2.2.2.2.2.2.2.2.2.2.2.2.2.1)
                     have HS17_ := (hb.cell (World.block_lt_of_cell? _ _ (hHeld.2.2.2.2.2.2.2.2.2.2.2.2.2.2.2.2.2.1))).trans (hHeld.2.2.2.2.2.2.2.2.2.2.2.2.2.2.2.2.2.1)
                     have HS18_ := (hb.cell (World.block_lt_of_cell? _ _ (hHeld.2.2.2.2.2.2.2.2.2.2.2.2.2.2.2.2.2.2.1))).trans (hHeld.2.2.2.2.2.2.2.2.2.2.2.2.2.2.2.2.2.2.1)
                     have HS19_ := (hb.cell (World.block_lt_of_cell? _ _ (hHeld.2.2.2.2.2.2.2.2.2.2.2.2.2.2.2.2.2.2.2.1))).trans (hHeld.2.2.2.2.2.2.2.2.2.2.2.2.2.2.2.2.2.2.2.1)
                     have HS20_ := (hb.cell (World.block_lt_of_cell? _ _ (hHeld.2.2.2.2.2.2.2.2.2.2.2.2.2.2.2.2.2.2.2.2.1))).trans (hHeld.2.2.2.2.2.2.2.2.2.2.2.2.2.2.2.2.2.2.2.2.1)
                     have HS21_ := (hb.cell (World.block_lt_of_cell? _ _ (hHeld.2.2.2.2.2.2.2.2.2.2.2.2.2.2.2.2.2.2.2.2.2.1))).trans (hHeld.2.2.2.2.2.2.2.2.2.2.2.2.2.2.2.2.2.2.2.2.2.1)
                     have HS22_ := (hb.cell (World.block_lt_of_cell? _ _ (hHeld.2.2.2.2.2.2.2.2.2.2.2.2.2.2.2.2.2.2.2.2.2.2.1))).trans (hHeld.2.2.2.2.2.2.2.2.2.2.2.2.2.2.2.2.2.2.2.2.2.2.1)
                     have HS23_ := (hb.cell (World.block_lt_of_cell? _ _ (hHeld.2.2.2.2.2.2.2.2.2.2.2.2.2.2.2.2.2.2.2.2.2.2.2))).trans (hHeld.2.2.2.2.2.2.2.2.2.2.2.2.2.2.2.2.2.2.2.2.2.2.2)
                     refine ⟨_, rfl, ?_⟩
                     have n0_ := Aside0.mk (Kd.R_below (by (with_reducible repeat (first | apply Kd.R_alloc | apply Kd.R_drewN | apply Kd.R_drew)); exact HO_10.out) hb)
                     have n1_ := Aside0.mk (Kd.R_below (by (with_reducible repeat (first | apply Kd.R_alloc | apply Kd.R_drewN | apply Kd.R_drew)); exact HO_14.out) hb)
                     have n2_ := Aside0.mk (blk_below (g := gb236) (o := .cells #[.int .i64 a0_0, .int .i64 a0_1, .int .i64 a0_2] 22 (0, 0)) (by (with_reducible repeat (first | refine blk_drewN ?_ _ | refine blk_drew ?_ | refine blk_alloc ?_ _)); exact BK236.out) hb)
                     have n3_ := Aside0.mk (blk_below (g := gb281) (o := .cells #[.int .i64 x282000_2, .int .i64 x282001_2, .int .i64 x282002_2] 22 (0, 0)) (by (with_reducible repeat (first | refine blk_drewN ?_ _ | refine blk_drew ?_ | refine blk_alloc ?_ _)); exact BK281.out) hb)
                     have n4_ := Aside0.mk (blk_below (g := gb283) (o := .cells #[.bool ((rd_T40 t254 x17_2).f0), .int .i64 ((rd_T40 t254 x17_2).f1.f0), .int .i64 ((rd_T40 t254 x17_2).f1.f1), .int .i64 ((rd_T40 t254 x17_2).f2.f0), .int .i64 ((rd_T40 t254 x17_2).f2.f1), .int .i64 ((rd_T40 t254 x17_2).f3.f0), .int .i64 ((rd_T40 t254 x17_2).f3.f1)] 40 (0, 0)) (by (with_reducible repeat (first | refine blk_drewN ?_ _ | refine blk_drew ?_ | refine blk_alloc ?_ _)); exact BK283.out) hb)
                     have n5_ := Aside0.mk (below_step (by repeat (first | (with_reducible first | exact HB.out | apply below_alloc | apply pw_below_drewN | apply below_drew1 | refine below_set ?_ GE236.out | refine below_set ?_ GE281.out | refine below_set ?_ GE283.out) | exact HB.out)) hb)
                     clear HO_10
                     clear HO_14
                     clear BK236
                     clear BK281
                     clear BK283
                     clear HB
                     have HO_10 := n0_
                     have HO_14 := n1_
                     have BK236 := n2_
                     have BK281 := n3_
                     have BK283 := n4_
                     have HB := n5_
                     clear n0_ n1_ n2_ n3_ n4_ n5_
                     refine hK.out _ _ ⟨(blk_cell BK283.out 0).trans rfl, (blk_cell BK283.out 1).trans rfl, (blk_cell BK283.out 2).trans rfl, (blk_cell BK283.out 3).trans rfl, (blk_cell BK283.out 4).trans rfl, (blk_cell BK283.out 5).trans rfl, (blk_cell BK283.out 6).trans rfl, (blk_cell BK281.out 0).trans rfl, (blk_cell BK281.out 1).trans rfl, (blk_cell BK281.out 2).trans rfl, HS10_, HS11_, HS12_, HS13_, HS14_, HS15_, HS16_, HS17_, HS18_, HS19_, HS20_, HS21_, HS22_, HS23_⟩ (fun hHeld => ?_)
                     clear hK K
                     refine norm_ (a' := ?_) ?_ ?_
                     rotate_left
                     ·show Act.put _ (some 119) _ = _
                      simp only [Act.put, List.setIfInBounds_toArray, List.set_cons_zero, List.set_cons_succ, i64_w, i32_w]
                      rfl
                     refine one_ (i := 7) (N := some 121) #[true, true, true, true, true, true, true, true, false, false, false, false, false, false, false, false, false, false, false, false, false, false, false, false, false, false, false, false, false, false, false, false, false, false, false, false, false, false, false, false, false, false, false, false, false, false, false, false] rfl rfl (one_of HT_.out (by kernel_rfl)) (by decide) (fun K hK => ?_)
                     refine goes_ Try.func12 (by kernel_rfl) rfl #[.agg #[.bool ((rd_T40 t254 x17_2).f0), .int .i64 ((rd_T40 t254 x17_2).f1.f0), .int .i64 ((rd_T40 t254 x17_2).f1.f1), .int .i64 ((rd_T40 t254 x17_2).f2.f0), .int .i64 ((rd_T40 t254 x17_2).f2.f1), .int .i64 ((rd_T40 t254 x17_2).f3.f0), .int .i64 ((rd_T40 t254 x17_2).f3.f1)]] (by rfl) rfl rfl (by (try simp only [List.map_toArray, List.map_cons, List.map_nil]); first | done | rfl | (simp only [List.length_drop, List.length_take]; rfl)) ?_
                     with_reducible refine (tripartitelaw06_one.calls ((rd_T40 t254 x17_2).f0) ((rd_T40 t254 x17_2).f1.f0) ((rd_T40 t254 x17_2).f1.f1) ((rd_T40 t254 x17_2).f2.f0) ((rd_T40 t254 x17_2).f2.f1) ((rd_T40 t254 x17_2).f3.f0) ((rd_T40 t254 x17_2).f3.f1) t299 t300 t301 t302 t303 t304 t305 _ A77.out).mono ?_
                     rintro e w91 ⟨rfl, hb⟩
                     have HS10_ := (hb.cell (World.block_lt_of_cell? _ _ (hHeld.2.2.2.2.2.2.2.2.2.2.1))).trans (hHeld.2.2.2.2.2.2.2.2.2.2.1)
                     have HS11_ := (hb.cell (World.block_lt_of_cell? _ _ (hHeld.2.2.2.2.2.2.2.2.2.2.2.1))).trans (hHeld.2.2.2.2.2.2.2.2.2.2.2.1)
                     have HS12_ := (hb.cell (World.block_lt_of_cell? _ _ (hHeld.2.2.2.2.2.2.2.2.2.2.2.2.1))).trans (hHeld.2.2.2.2.2.2.2.2.2.2.2.2.1)
                     have HS13_ := (hb.cell (World.block_lt_of_cell? _ _ (hHeld.2.2.2.2.2.2.2.2.2.2.2.2.2.1))).trans (hHeld.2.2.2.2.2.2.2.2.2.2.2.2.2.1)
                     have HS14_ := (hb.cell (World.block_lt_of_cell? _ _ (hHeld.2.2.2.2.2.2.2.2.2.2.2.2.2.2.1))).trans (hHeld.2.2.2.2.2.2.2.2.2.2.2.2.2.2.1)
                     have HS15_ := (hb.cell (World.block_lt_of_cell? _ _ (hHeld.2.2.2.2.2.2.2.2.2.2.2.2.2.2.2.1))).trans (hHeld.2.2.2.2.2.2.2.2.2.2.2.2.2.2.2.1)
                     have HS16_ := (hb.cell (World.block_lt_of_cell? _ _ (hHeld.2.2.2.2.2.2.2.2.2.2.2.2.2.2.2.2.1))).trans (hHeld.2.2.2.2.2.2.2.2.2.2.2.2.2.2.2.2.1)
                     have HS17_ := (hb.cell (World.block_lt_of_cell? _ _ (hHeld.2.2.2.2.2.2.2.2.2.2.2.2.2.2.2.2.2.1))).trans (hHeld.2.2.2.2.2.2.2.2.2.2.2.2.2.2.2.2.2.1)
                     have HS18_ := (hb.cell (World.block_lt_of_cell? _ _ (hHeld.2.2.2.2.2.2.2.2.2.2.2.2.2.2.2.2.2.2.1))).trans (hHeld.2.2.2.2.2.2.2.2.2.2.2.2.2.2.2.2.2.2.1)
                     have HS19_ := (hb.cell (World.block_lt_of_cell? _ _ (hHeld.2.2.2.2.2.2.2.2.2.2.2.2.2.2.2.2.2.2.2.1))).trans (hHeld.2.2.2.2.2.2.2.2.2.2.2.2.2.2.2.2.2.2.2.1)
                     have HS20_ := (hb.cell (World.block_lt_of_cell? _ _ (hHeld.2.2.2.2.2.2.2.2.2.2.2.2.2.2.2.2.2.2.2.2.1))).trans (hHeld.2.2.2.2.2.2.2.2.2.2.2.2.2.2.2.2.2.2.2.2.1)
                     have HS21_ := (hb.cell (World.block_lt_of_cell? _ _ (hHeld.2.2.2.2.2.2.2.2.2.2.2.2.2.2.2.2.2.2.2.2.2.1))).trans (hHeld.2.2.2.2.2.2.2.2.2.2.2.2.2.2.2.2.2.2.2.2.2.1)
                     have HS22_ := (hb.cell (World.block_lt_of_cell? _ _ (hHeld.2.2.2.2.2.2.2.2.2.2.2.2.2.2.2.2.2.2.2.2.2.2.1))).trans (hHeld.2.2.2.2.2.2.2.2.2.2.2.2.2.2.2.2.2.2.2.2.2.2.1)
                     have HS23_ := (hb.cell (World.block_lt_of_cell? _ _ (hHeld.2.2.2.2.2.2.2.2.2.2.2.2.2.2.2.2.2.2.2.2.2.2.2))).trans (hHeld.2.2.2.2.2.2.2.2.2.2.2.2.2.2.2.2.2.2.2.2.2.2.2)
                     refine ⟨_, rfl, ?_⟩
                     have n0_ := Aside0.mk (Kd.R_below (by (with_reducible repeat (first | apply Kd.R_alloc | apply Kd.R_drewN | apply Kd.R_drew)); exact HO_10.out) hb)
                     have n1_ := Aside0.mk (Kd.R_below (by (with_reducible repeat (first | apply Kd.R_alloc | apply Kd.R_drewN | apply Kd.R_drew)); exact HO_14.out) hb)
                     have n2_ := Aside0.mk (blk_below (g := gb236) (o := .cells #[.int .i64 a0_0, .int .i64 a0_1, .int .i64 a0_2] 22 (0, 0)) (by (with_reducible repeat (first | refine blk_drewN ?_ _ | refine blk_drew ?_ | refine blk_alloc ?_ _)); exact BK236.out) hb)
                     have n3_ := Aside0.mk (blk_below (g := gb281) (o := .cells #[.int .i64 x282000_2, .int .i64 x282001_2, .int .i64 x282002_2] 22 (0, 0)) (by (with_reducible repeat (first | refine blk_drewN ?_ _ | refine blk_drew ?_ | refine blk_alloc ?_ _)); exact BK281.out) hb)
                     have n4_ := Aside0.mk (blk_below (g := gb283) (o := .cells #[.bool ((rd_T40 t254 x17_2).f0), .int .i64 ((rd_T40 t254 x17_2).f1.f0), .int .i64 ((rd_T40 t254 x17_2).f1.f1), .int .i64 ((rd_T40 t254 x17_2).f2.f0), .int .i64 ((rd_T40 t254 x17_2).f2.f1), .int .i64 ((rd_T40 t254 x17_2).f3.f0), .int .i64 ((rd_T40 t254 x17_2).f3.f1)] 40 (0, 0)) (by (with_reducible repeat (first | refine blk_drewN ?_ _ | refine blk_drew ?_ | refine blk_alloc ?_ _)); exact BK283.out) hb)
                     have n5_ := Aside0.mk (below_step (by repeat (first | (with_reducible first | exact HB.out | apply below_alloc | apply pw_below_drewN | apply below_drew1 | refine below_set ?_ GE236.out | refine below_set ?_ GE281.out | refine below_set ?_ GE283.out) | exact HB.out)) hb)
                     clear HO_10
                     clear HO_14
                     clear BK236
                     clear BK281
                     clear BK283
                     clear HB
                     have HO_10 := n0_
                     have HO_14 := n1_
                     have BK236 := n2_
                     have BK281 := n3_
                     have BK283 := n4_
                     have HB := n5_
                     clear n0_ n1_ n2_ n3_ n4_ n5_
                     refine hK.out _ _ ⟨(blk_cell BK283.out 0).trans rfl, (blk_cell BK283.out 1).trans rfl, (blk_cell BK283.out 2).trans rfl, (blk_cell BK283.out 3).trans rfl, (blk_cell BK283.out 4).trans rfl, (blk_cell BK283.out 5).trans rfl, (blk_cell BK283.out 6).trans rfl, (blk_cell BK281.out 0).trans rfl, (blk_cell BK281.out 1).trans rfl, (blk_cell BK281.out 2).trans rfl, HS10_, HS11_, HS12_, HS13_, HS14_, HS15_, HS16_, HS17_, HS18_, HS19_, HS20_, HS21_, HS22_, HS23_⟩ (fun hHeld => ?_)
                     clear hK K
                     refine norm_ (a' := ?_) ?_ ?_
                     rotate_left
                     ·show Act.put _ (some 121) _ = _
                      simp only [Act.put, List.setIfInBounds_toArray, List.set_cons_zero, List.set_cons_succ, i64_w, i32_w]
                      rfl
                     refine pure_ (i := 8) (N := some 122) (v := ?_) (a' := ?_) #[true, true, true, true, true, true, true, true, true, false, false, false, false, false, false, false, false, false, false, false, false, false, false, false, false, false, false, false, false, false, false, false, false, false, false, false, false, false, false, false, false, false, false, false, false, false, false, false] rfl rfl (any_of HT_.out (by kernel_rfl)) (fun _ _ _ h => h) (Or.inl ⟨by rfl, ?_⟩) ?_ ?_
                     rotate_left
                     ·intro w'
                      go_simp
                      with_reducible rfl
                     rotate_left
                     ·simp only [Act.put, List.setIfInBounds_toArray, List.set_cons_zero, List.set_cons_succ, i64_w, i32_w]
                      rfl
                     refine pure_ (i := 9) (N := some 123) (v := ?_) (a' := ?_) #[true, true, true, true, true, true, true, true, true, true, false, false, false, false, false, false, false, false, false, false, false, false, false, false, false, false, false, false, false, false, false, false, false, false, false, false, false, false, false, false, false, false, false, false, false, false, false, false] rfl rfl (any_of HT_.out (by kernel_rfl)) (fun _ _ _ h => h) (Or.inl ⟨by rfl, ?_⟩) ?_ ?_
                     rotate_left
                     ·intro w'
                      go_simp
                      with_reducible rfl
                     rotate_left
                     ·simp only [Act.put, List.setIfInBounds_toArray, List.set_cons_zero, List.set_cons_succ, i64_w, i32_w]
                      rfl
                     refine pure_ (i := 10) (N := some 124) (v := ?_) (a' := ?_) #[true, true, true, true, true, true, true, true, true, true, true, false, false, false, false, false, false, false, false, false, false, false, false, false, false, false, false, false, false, false, false, false, false, false, false, false, false, false, false, false, false, false, false, false, false, false, false, false] rfl rfl (any_of HT_.out (by kernel_rfl)) (fun _ _ _ h => h) (Or.inl ⟨by rfl, ?_⟩) ?_ ?_
                     rotate_left
                     ·intro w'
                      go_simp
                      with_reducible rfl
                     rotate_left
                     ·simp only [Act.put, List.setIfInBounds_toArray, List.set_cons_zero, List.set_cons_succ, i64_w, i32_w]
                      rfl
                     refine pure_ (i := 11) (N := some 125) (v := ?_) (a' := ?_) #[true, true, true, true, true, true, true, true, true, true, true, true, false, false, false, false, false, false, false, false, false, false, false, false, false, false, false, false, false, false, false, false, false, false, false, false, false, false, false, false, false, false, false, false, false, false, false, false] rfl rfl (any_of HT_.out (by kernel_rfl)) (fun _ _ _ h => h) (Or.inl ⟨by rfl, ?_⟩) ?_ ?_
                     rotate_left
                     ·intro w'
                      go_simp
                      with_reducible rfl
                     rotate_left
                     ·simp only [Act.put, List.setIfInBounds_toArray, List.set_cons_zero, List.set_cons_succ, i64_w, i32_w]
                      rfl
                     refine pure_ (i := 13) (N := some 127) (v := ?_) (a' := ?_) #[true, true, true, true, true, true, true, true, true, true, true, true, false, true, false, false, false, false, false, false, false, false, false, false, false, false, false, false, false, false, false, false, false, false, false, false, false, false, false, false, false, false, false, false, false, false, false, false] rfl rfl (any_of HT_.out (by kernel_rfl)) (fun _ _ _ h => h) (Or.inl ⟨by rfl, ?_⟩) ?_ ?_
                     rotate_left
                     ·intro w'
                      go_simp
                      with_reducible rfl
                     rotate_left
                     ·simp only [Act.put, List.setIfInBounds_toArray, List.set_cons_zero, List.set_cons_succ, i64_w, i32_w]
                      rfl
                     refine take_ (i := 12) (N := some 126) (v := ?_) (a' := ?_) #[true, true, true, true, true, true, true, true, true, true, true, true, true, true, false, false, false, false, false, false, false, false, false, false, false, false, false, false, false, false, false, false, false, false, false, false, false, false, false, false, false, false, false, false, false, false, false, false] rfl rfl (take_ofW HT_.out HW_.out (by kernel_rfl)) (fun _ _ _ h => h) (Or.inl ⟨by rfl, ?_⟩) hHeld ?_ ?_
                     rotate_left
                     ·rintro w' ⟨s0, s1, s2, s3, s4, s5, s6, s7, s8, s9, s10, s11, s12, s13, s14, s15, s16, s17, s18, s19, s20, s21, s22, s23⟩
                      go_simp
                      with_reducible rfl
                     rotate_left
                     ·simp only [Act.put, List.setIfInBounds_toArray, List.set_cons_zero, List.set_cons_succ, i64_w, i32_w]
                      rfl
                     refine take_ (i := 14) (N := some 128) (v := ?_) (a' := ?_) #[true, true, true, true, true, true, true, true, true, true, true, true, true, true, true, false, false, false, false, false, false, false, false, false, false, false, false, false, false, false, false, false, false, false, false, false, false, false, false, false, false, false, false, false, false, false, false, false] rfl rfl (take_ofW HT_.out HW_.out (by kernel_rfl)) (fun _ _ _ h => h) (Or.inl ⟨by rfl, ?_⟩) hHeld ?_ ?_
                     rotate_left
                     ·rintro w' ⟨s0, s1, s2, s3, s4, s5, s6, s7, s8, s9, s10, s11, s12, s13, s14, s15, s16, s17, s18, s19, s20, s21, s22, s23⟩
                      go_simp
                      with_reducible rfl
                     rotate_left
                     ·simp only [Act.put, List.setIfInBounds_toArray, List.set_cons_zero, List.set_cons_succ, i64_w, i32_w]
                      rfl
                     refine pure_ (i := 15) (N := some 129) (v := ?_) (a' := ?_) #[true, true, true, true, true, true, true, true, true, true, true, true, true, true, true, true, false, false, false, false, false, false, false, false, false, false, false, false, false, false, false, false, false, false, false, false, false, false, false, false, false, false, false, false, false, false, false, false] rfl rfl (any_of HT_.out (by kernel_rfl)) (fun _ _ _ h => h) (Or.inl ⟨by rfl, ?_⟩) ?_ ?_
                     rotate_left
                     ·intro w'
                      go_simp
                      with_reducible rfl
                     rotate_left
                     ·simp only [Act.put, List.setIfInBounds_toArray, List.set_cons_zero, List.set_cons_succ, i64_w, i32_w]
                      rfl
                     refine pure_ (i := 16) (N := some 130) (v := ?_) (a' := ?_) #[true, true, true, true, true, true, true, true, true, true, true, true, true, true, true, true, true, false, false, false, false, false, false, false, false, false, false, false, false, false, false, false, false, false, false, false, false, false, false, false, false, false, false, false, false, false, false, false] rfl rfl (any_of HT_.out (by kernel_rfl)) (fun _ _ _ h => h) (Or.inl ⟨by rfl, ?_⟩) ?_ ?_
                     rotate_left
                     ·intro w'
                      go_simp
                      with_reducible rfl
                     rotate_left
                     ·simp only [Act.put, List.setIfInBounds_toArray, List.set_cons_zero, List.set_cons_succ, i64_w, i32_w]
                      rfl
                     refine pure_ (i := 17) (N := some 131) (v := ?_) (a' := ?_) #[true, true, true, true, true, true, true, true, true, true, true, true, true, true, true, true, true, true, false, false, false, false, false, false, false, false, false, false, false, false, false, false, false, false, false, false, false, false, false, false, false, false, false, false, false, false, false, false] rfl rfl (any_of HT_.out (by kernel_rfl)) (fun _ _ _ h => h) (Or.inl ⟨by rfl, ?_⟩) ?_ ?_
                     rotate_left
                     ·intro w'
                      go_simp
                      with_reducible rfl
                     rotate_left
                     ·simp only [Act.put, List.setIfInBounds_toArray, List.set_cons_zero, List.set_cons_succ, i64_w, i32_w]
                      rfl
                     refine pure_ (i := 18) (N := some 132) (v := ?_) (a' := ?_) #[true, true, true, true, true, true, true, true, true, true, true, true, true, true, true, true, true, true, true, false, false, false, false, false, false, false, false, false, false, false, false, false, false, false, false, false, false, false, false, false, false, false, false, false, false, false, false, false] rfl rfl (any_of HT_.out (by kernel_rfl)) (fun _ _ _ h => h) (Or.inl ⟨by rfl, ?_⟩) ?_ ?_
                     rotate_left
                     ·intro w'
                      go_simp
                      with_reducible rfl
                     rotate_left
                     ·simp only [Act.put, List.setIfInBounds_toArray, List.set_cons_zero, List.set_cons_succ, i64_w, i32_w]
                      rfl
                     refine pure_ (i := 19) (N := some 133) (v := ?_) (a' := ?_) #[true, true, true, true, true, true, true, true, true, true, true, true, true, true, true, true, true, true, true, true, false, false, false, false, false, false, false, false, false, false, false, false, false, false, false, false, false, false, false, false, false, false, false, false, false, false, false, false] rfl rfl (any_of HT_.out (by kernel_rfl)) (fun _ _ _ h => h) (Or.inl ⟨by rfl, ?_⟩) ?_ ?_
                     rotate_left
                     ·intro w'
                      go_simp
                      with_reducible rfl
                     rotate_left
                     ·simp only [Act.put, List.setIfInBounds_toArray, List.set_cons_zero, List.set_cons_succ, i64_w, i32_w]
                      rfl
                     refine pure_ (i := 21) (N := some 135) (v := ?_) (a' := ?_) #[true, true, true, true, true, true, true, true, true, true, true, true, true, true, true, true, true, true, true, true, false, true, false, false, false, false, false, false, false, false, false, false, false, false, false, false, false, false, false, false, false, false, false, false, false, false, false, false] rfl rfl (any_of HT_.out (by kernel_rfl)) (fun _ _ _ h => h) (Or.inl ⟨by rfl, ?_⟩) ?_ ?_
                     rotate_left
                     ·intro w'
                      go_simp
                      with_reducible rfl
                     rotate_left
                     ·simp only [Act.put, List.setIfInBounds_toArray, List.set_cons_zero, List.set_cons_succ, i64_w, i32_w]
                      rfl
                     refine take_ (i := 20) (N := some 134) (v := ?_) (a' := ?_) #[true, true, true, true, true, true, true, true, true, true, true, true, true, true, true, true, true, true, true, true, true, true, false, false, false, false, false, false, false, false, false, false, false, false, false, false, false, false, false, false, false, false, false, false, false, false, false, false] rfl rfl (take_ofW HT_.out HW_.out (by kernel_rfl)) (fun _ _ _ h => h) (Or.inl ⟨by rfl, ?_⟩) hHeld ?_ ?_
                     rotate_left
                     ·rintro w' ⟨s0, s1, s2, s3, s4, s5, s6, s7, s8, s9, s10, s11, s12, s13, s14, s15, s16, s17, s18, s19, s20, s21, s22, s23⟩
                      go_simp
                      with_reducible rfl
                     rotate_left
                     ·simp only [Act.put, List.setIfInBounds_toArray, List.set_cons_zero, List.set_cons_succ, i64_w, i32_w]
                      rfl
                     refine take_ (i := 22) (N := some 136) (v := ?_) (a' := ?_) #[true, true, true, true, true, true, true, true, true, true, true, true, true, true, true, true, true, true, true, true, true, true, true, false, false, false, false, false, false, false, false, false, false, false, false, false, false, false, false, false, false, false, false, false, false, false, false, false] rfl rfl (take_ofW HT_.out HW_.out (by kernel_rfl)) (fun _ _ _ h => h) (Or.inl ⟨by rfl, ?_⟩) hHeld ?_ ?_
                     rotate_left
                     ·rintro w' ⟨s0, s1, s2, s3, s4, s5, s6, s7, s8, s9, s10, s11, s12, s13, s14, s15, s16, s17, s18, s19, s20, s21, s22, s23⟩
                      go_simp
                      with_reducible rfl
                     rotate_left
                     ·simp only [Act.put, List.setIfInBounds_toArray, List.set_cons_zero, List.set_cons_succ, i64_w, i32_w]
                      rfl
                     refine pure_ (i := 23) (N := some 137) (v := ?_) (a' := ?_) #[true, true, true, true, true, true, true, true, true, true, true, true, true, true, true, true, true, true, true, true, true, true, true, true, false, false, false, false, false, false, false, false, false, false, false, false, false, false, false, false, false, false, false, false, false, false, false, false] rfl rfl (any_of HT_.out (by kernel_rfl)) (fun _ _ _ h => h) (Or.inl ⟨by rfl, ?_⟩) ?_ ?_
                     rotate_left
                     ·intro w'
                      go_simp
                      with_reducible rfl
                     rotate_left
                     ·simp only [Act.put, List.setIfInBounds_toArray, List.set_cons_zero, List.set_cons_succ, i64_w, i32_w]
                      rfl
                     refine pure_ (i := 24) (N := some 138) (v := ?_) (a' := ?_) #[true, true, true, true, true, true, true, true, true, true, true, true, true, true, true, true, true, true, true, true, true, true, true, true, true, false, false, false, false, false, false, false, false, false, false, false, false, false, false, false, false, false, false, false, false, false, false, false] rfl rfl (any_of HT_.out (by kernel_rfl)) (fun _ _ _ h => h) (Or.inl ⟨by rfl, ?_⟩) ?_ ?_
                     rotate_left
                     ·intro w'
                      go_simp
                      with_reducible rfl
                     rotate_left
                     ·simp only [Act.put, List.setIfInBounds_toArray, List.set_cons_zero, List.set_cons_succ, i64_w, i32_w]
                      rfl
                     refine pure_ (i := 25) (N := some 139) (v := ?_) (a' := ?_) #[true, true, true, true, true, true, true, true, true, true, true, true, true, true, true, true, true, true, true, true, true, true, true, true, true, true, false, false, false, false, false, false, false, false, false, false, false, false, false, false, false, false, false, false, false, false, false, false] rfl rfl (any_of HT_.out (by kernel_rfl)) (fun _ _ _ h => h) (Or.inl ⟨by rfl, ?_⟩) ?_ ?_
                     rotate_left
                     ·intro w'
                      go_simp
                      with_reducible rfl
                     rotate_left
                     ·simp only [Act.put, List.setIfInBounds_toArray, List.set_cons_zero, List.set_cons_succ, i64_w, i32_w]
                      rfl
                     refine pure_ (i := 26) (N := some 140) (v := ?_) (a' := ?_) #[true, true, true, true, true, true, true, true, true, true, true, true, true, true, true, true, true, true, true, true, true, true, true, true, true, true, true, false, false, false, false, false, false, false, false, false, false, false, false, false, false, false, false, false, false, false, false, false] rfl rfl (any_of HT_.out (by kernel_rfl)) (fun _ _ _ h => h) (Or.inl ⟨by rfl, ?_⟩) ?_ ?_
                     rotate_left
                     ·intro w'
                      go_simp
                      with_reducible rfl
                     rotate_left
                     ·simp only [Act.put, List.setIfInBounds_toArray, List.set_cons_zero, List.set_cons_succ, i64_w, i32_w]
                      rfl
                     refine pure_ (i := 27) (N := some 141) (v := ?_) (a' := ?_) #[true, true, true, true, true, true, true, true, true, true, true, true, true, true, true, true, true, true, true, true, true, true, true, true, true, true, true, true, false, false, false, false, false, false, false, false, false, false, false, false, false, false, false, false, false, false, false, false] rfl rfl (any_of HT_.out (by kernel_rfl)) (fun _ _ _ h => h) (Or.inl ⟨by rfl, ?_⟩) ?_ ?_
                     rotate_left
                     ·intro w'
                      go_simp
                      with_reducible rfl
                     rotate_left
                     ·simp only [Act.put, List.setIfInBounds_toArray, List.set_cons_zero, List.set_cons_succ, i64_w, i32_w]
                      rfl
                     refine pure_ (i := 29) (N := some 143) (v := ?_) (a' := ?_) #[true, true, true, true, true, true, true, true, true, true, true, true, true, true, true, true, true, true, true, true, true, true, true, true, true, true, true, true, false, true, false, false, false, false, false, false, false, false, false, false, false, false, false, false, false, false, false, false] rfl rfl (any_of HT_.out (by kernel_rfl)) (fun _ _ _ h => h) (Or.inl ⟨by rfl, ?_⟩) ?_ ?_
                     rotate_left
                     ·intro w'
                      go_simp
                      with_reducible rfl
                     rotate_left
                     ·simp only [Act.put, List.setIfInBounds_toArray, List.set_cons_zero, List.set_cons_succ, i64_w, i32_w]
                      rfl
                     refine take_ (i := 28) (N := some 142) (v := ?_) (a' := ?_) #[true, true, true, true, true, true, true, true, true, true, true, true, true, true, true, true, true, true, true, true, true, true, true, true, true, true, true, true, true, true, false, false, false, false, false, false, false, false, false, false, false, false, false, false, false, false, false, false] rfl rfl (take_ofW HT_.out HW_.out (by kernel_rfl)) (fun _ _ _ h => h) (Or.inl ⟨by rfl, ?_⟩) hHeld ?_ ?_
                     rotate_left
                     ·rintro w' ⟨s0, s1, s2, s3, s4, s5, s6, s7, s8, s9, s10, s11, s12, s13, s14, s15, s16, s17, s18, s19, s20, s21, s22, s23⟩
                      go_simp
                      with_reducible rfl
                     rotate_left
                     ·simp only [Act.put, List.setIfInBounds_toArray, List.set_cons_zero, List.set_cons_succ, i64_w, i32_w]
                      rfl
                     refine take_ (i := 30) (N := some 144) (v := ?_) (a' := ?_) #[true, true, true, true, true, true, true, true, true, true, true, true, true, true, true, true, true, true, true, true, true, true, true, true, true, true, true, true, true, true, true, false, false, false, false, false, false, false, false, false, false, false, false, false, false, false, false, false] rfl rfl (take_ofW HT_.out HW_.out (by kernel_rfl)) (fun _ _ _ h => h) (Or.inl ⟨by rfl, ?_⟩) hHeld ?_ ?_
                     rotate_left
                     ·rintro w' ⟨s0, s1, s2, s3, s4, s5, s6, s7, s8, s9, s10, s11, s12, s13, s14, s15, s16, s17, s18, s19, s20, s21, s22, s23⟩
                      go_simp
                      with_reducible rfl
                     rotate_left
                     ·simp only [Act.put, List.setIfInBounds_toArray, List.set_cons_zero, List.set_cons_succ, i64_w, i32_w]
                      rfl
                     refine pure_ (i := 31) (N := some 145) (v := ?_) (a' := ?_) #[true, true, true, true, true, true, true, true, true, true, true, true, true, true, true, true, true, true, true, true, true, true, true, true, true, true, true, true, true, true, true, true, false, false, false, false, false, false, false, false, false, false, false, false, false, false, false, false] rfl rfl (any_of HT_.out (by kernel_rfl)) (fun _ _ _ h => h) (Or.inl ⟨by rfl, ?_⟩) ?_ ?_
                     rotate_left
                     ·intro w'
                      go_simp
                      with_reducible rfl
                     rotate_left
                     ·simp only [Act.put, List.setIfInBounds_toArray, List.set_cons_zero, List.set_cons_succ, i64_w, i32_w]
                      rfl
                     refine pure_ (i := 32) (N := some 146) (v := ?_) (a' := ?_) #[true, true, true, true, true, true, true, true, true, true, true, true, true, true, true, true, true, true, true, true, true, true, true, true, true, true, true, true, true, true, true, true, true, false, false, false, false, false, false, false, false, false, false, false, false, false, false, false] rfl rfl (any_of HT_.out (by kernel_rfl)) (fun _ _ _ h => h) (Or.inl ⟨by rfl, ?_⟩) ?_ ?_
                     rotate_left
                     ·intro w'
                      go_simp
                      with_reducible rfl
                     rotate_left
                     ·simp only [Act.put, List.setIfInBounds_toArray, List.set_cons_zero, List.set_cons_succ, i64_w, i32_w]
                      rfl
                     refine pure_ (i := 33) (N := some 147) (v := ?_) (a' := ?_) #[true, true, true, true, true, true, true, true, true, true, true, true, true, true, true, true, true, true, true, true, true, true, true, true, true, true, true, true, true, true, true, true, true, true, false, false, false, false, false, false, false, false, false, false, false, false, false, false] rfl rfl (any_of HT_.out (by kernel_rfl)) (fun _ _ _ h => h) (Or.inl ⟨by rfl, ?_⟩) ?_ ?_
                     rotate_left
                     ·intro w'
                      go_simp
                      with_reducible rfl
                     rotate_left
                     ·simp only [Act.put, List.setIfInBounds_toArray, List.set_cons_zero, List.set_cons_succ, i64_w, i32_w]
                      rfl
                     refine pure_ (i := 34) (N := some 148) (v := ?_) (a' := ?_) #[true, true, true, true, true, true, true, true, true, true, true, true, true, true, true, true, true, true, true, true, true, true, true, true, true, true, true, true, true, true, true, true, true, true, true, false, false, false, false, false, false, false, false, false, false, false, false, false] rfl rfl (any_of HT_.out (by kernel_rfl)) (fun _ _ _ h => h) (Or.inl ⟨by rfl, ?_⟩) ?_ ?_
                     rotate_left
                     ·intro w'
                      go_simp
                      with_reducible rfl
                     rotate_left
                     ·simp only [Act.put, List.setIfInBounds_toArray, List.set_cons_zero, List.set_cons_succ, i64_w, i32_w]
                      rfl
                     refine pure_ (i := 35) (N := some 149) (v := ?_) (a' := ?_) #[true, true, true, true, true, true, true, true, true, true, true, true, true, true, true, true, true, true, true, true, true, true, true, true, true, true, true, true, true, true, true, true, true, true, true, true, false, false, false, false, false, false, false, false, false, false, false, false] rfl rfl (any_of HT_.out (by kernel_rfl)) (fun _ _ _ h => h) (Or.inl ⟨by rfl, ?_⟩) ?_ ?_
                     rotate_left
                     ·intro w'
                      go_simp
                      with_reducible rfl
                     rotate_left
                     ·simp only [Act.put, List.setIfInBounds_toArray, List.set_cons_zero, List.set_cons_succ, i64_w, i32_w]
                      rfl
                     refine pure_ (i := 36) (N := some 150) (v := ?_) (a' := ?_) #[true, true, true, true, true, true, true, true, true, true, true, true, true, true, true, true, true, true, true, true, true, true, true, true, true, true, true, true, true, true, true, true, true, true, true, true, true, false, false, false, false, false, false, false, false, false, false, false] rfl rfl (any_of HT_.out (by kernel_rfl)) (fun _ _ _ h => h) (Or.inl ⟨by rfl, ?_⟩) ?_ ?_
                     rotate_left
                     ·intro w'
                      go_simp
                      with_reducible rfl
                     rotate_left
                     ·simp only [Act.put, List.setIfInBounds_toArray, List.set_cons_zero, List.set_cons_succ, i64_w, i32_w]
                      rfl
                     refine pure_ (i := 37) (N := some 151) (v := ?_) (a' := ?_) #[true, true, true, true, true, true, true, true, true, true, true, true, true, true, true, true, true, true, true, true, true, true, true, true, true, true, true, true, true, true, true, true, true, true, true, true, true, true, false, false, false, false, false, false, false, false, false, false] rfl rfl (any_of HT_.out (by kernel_rfl)) (fun _ _ _ h => h) (Or.inl ⟨by rfl, ?_⟩) ?_ ?_
                     rotate_left
                     ·intro w'
                      go_simp
                      with_reducible rfl
                     rotate_left
                     ·simp only [Act.put, List.setIfInBounds_toArray, List.set_cons_zero, List.set_cons_succ, i64_w, i32_w]
                      rfl
                     refine pure_ (i := 38) (N := some 152) (v := ?_) (a' := ?_) #[true, true, true, true, true, true, true, true, true, true, true, true, true, true, true, true, true, true, true, true, true, true, true, true, true, true, true, true, true, true, true, true, true, true, true, true, true, true, true, false, false, false, false, false, false, false, false, false] rfl rfl (any_of HT_.out (by kernel_rfl)) (fun _ _ _ h => h) (Or.inl ⟨by rfl, ?_⟩) ?_ ?_
                     rotate_left
                     ·intro w'
                      go_simp
                      with_reducible rfl
                     rotate_left
                     ·simp only [Act.put, List.setIfInBounds_toArray, List.set_cons_zero, List.set_cons_succ, i64_w, i32_w]
                      rfl
                     refine pure_ (i := 39) (N := some 153) (v := ?_) (a' := ?_) #[true, true, true, true, true, true, true, true, true, true, true, true, true, true, true, true, true, true, true, true, true, true, true, true, true, true, true, true, true, true, true, true, true, true, true, true, true, true, true, true, false, false, false, false, false, false, false, false] rfl rfl (any_of HT_.out (by kernel_rfl)) (fun _ _ _ h => h) (Or.inl ⟨by rfl, ?_⟩) ?_ ?_
                     rotate_left
                     ·intro w'
                      go_simp
                      with_reducible rfl
                     rotate_left
                     ·simp only [Act.put, List.setIfInBounds_toArray, List.set_cons_zero, List.set_cons_succ, i64_w, i32_w]
                      rfl
                     refine pure_ (i := 40) (N := some 154) (v := ?_) (a' := ?_) #[true, true, true, true, true, true, true, true, true, true, true, true, true, true, true, true, true, true, true, true, true, true, true, true, true, true, true, true, true, true, true, true, true, true, true, true, true, true, true, true, true, false, false, false, false, false, false, false] rfl rfl (any_of HT_.out (by kernel_rfl)) (fun _ _ _ h => h) (Or.inl ⟨by rfl, ?_⟩) ?_ ?_
                     rotate_left
                     ·intro w'
                      go_simp
                      with_reducible rfl
                     rotate_left
                     ·simp only [Act.put, List.setIfInBounds_toArray, List.set_cons_zero, List.set_cons_succ, i64_w, i32_w]
                      rfl
                     refine pure_ (i := 41) (N := some 155) (v := ?_) (a' := ?_) #[true, true, true, true, true, true, true, true, true, true, true, true, true, true, true, true, true, true, true, true, true, true, true, true, true, true, true, true, true, true, true, true, true, true, true, true, true, true, true, true, true, true, false, false, false, false, false, false] rfl rfl (any_of HT_.out (by kernel_rfl)) (fun _ _ _ h => h) (Or.inl ⟨by rfl, ?_⟩) ?_ ?_
                     rotate_left
                     ·intro w'
                      go_simp
                      with_reducible rfl
                     rotate_left
                     ·simp only [Act.put, List.setIfInBounds_toArray, List.set_cons_zero, List.set_cons_succ, i64_w, i32_w]
                      rfl
                     refine pure_ (i := 43) (N := some 157) (v := ?_) (a' := ?_) #[true, true, true, true, true, true, true, true, true, true, true, true, true, true, true, true, true, true, true, true, true, true, true, true, true, true, true, true, true, true, true, true, true, true, true, true, true, true, true, true, true, true, false, true, false, false, false, false] rfl rfl (any_of HT_.out (by kernel_rfl)) (fun _ _ _ h => h) (Or.inl ⟨by rfl, ?_⟩) ?_ ?_
                     rotate_left
                     ·intro w'
                      go_simp
                      with_reducible rfl
                     rotate_left
                     ·simp only [Act.put, List.setIfInBounds_toArray, List.set_cons_zero, List.set_cons_succ, i64_w, i32_w]
                      rfl
                     refine take_ (i := 42) (N := some 156) (v := ?_) (a' := ?_) #[true, true, true, true, true, true, true, true, true, true, true, true, true, true, true, true, true, true, true, true, true, true, true, true, true, true, true, true, true, true, true, true, true, true, true, true, true, true, true, true, true, true, true, true, false, false, false, false] rfl rfl (take_ofW HT_.out HW_.out (by kernel_rfl)) (fun _ _ _ h => h) (Or.inl ⟨by rfl, ?_⟩) hHeld ?_ ?_
                     rotate_left
                     ·rintro w' ⟨s0, s1, s2, s3, s4, s5, s6, s7, s8, s9, s10, s11, s12, s13, s14, s15, s16, s17, s18, s19, s20, s21, s22, s23⟩
                      go_simp
                      with_reducible rfl
                     rotate_left
                     ·simp only [Act.put, List.setIfInBounds_toArray, List.set_cons_zero, List.set_cons_succ, i64_w, i32_w]
                      rfl
                     refine take_ (i := 44) (N := some 158) (v := ?_) (a' := ?_) #[true, true, true, true, true, true, true, true, true, true, true, true, true, true, true, true, true, true, true, true, true, true, true, true, true, true, true, true, true, true, true, true, true, true, true, true, true, true, true, true, true, true, true, true, true, false, false, false] rfl rfl (take_ofW HT_.out HW_.out (by kernel_rfl)) (fun _ _ _ h => h) (Or.inl ⟨by rfl, ?_⟩) hHeld ?_ ?_
                     rotate_left
                     ·rintro w' ⟨s0, s1, s2, s3, s4, s5, s6, s7, s8, s9, s10, s11, s12, s13, s14, s15, s16, s17, s18, s19, s20, s21, s22, s23⟩
                      go_simp
                      with_reducible rfl
                     rotate_left
                     ·simp only [Act.put, List.setIfInBounds_toArray, List.set_cons_zero, List.set_cons_succ, i64_w, i32_w]
                      rfl
                     refine pure_ (i := 45) (N := some 159) (v := ?_) (a' := ?_) #[true, true, true, true, true, true, true, true, true, true, true, true, true, true, true, true, true, true, true, true, true, true, true, true, true, true, true, true, true, true, true, true, true, true, true, true, true, true, true, true, true, true, true, true, true, true, false, false] rfl rfl (any_of HT_.out (by kernel_rfl)) (fun _ _ _ h => h) (Or.inl ⟨by rfl, ?_⟩) ?_ ?_
                     rotate_left
                     ·intro w'
                      go_simp
                      with_reducible rfl
                     rotate_left
                     ·simp only [Act.put, List.setIfInBounds_toArray, List.set_cons_zero, List.set_cons_succ, i64_w, i32_w]
                      rfl
                     refine pure_ (i := 46) (N := some 160) (v := ?_) (a' := ?_) #[true, true, true, true, true, true, true, true, true, true, true, true, true, true, true, true, true, true, true, true, true, true, true, true, true, true, true, true, true, true, true, true, true, true, true, true, true, true, true, true, true, true, true, true, true, true, true, false] rfl rfl (any_of HT_.out (by kernel_rfl)) (fun _ _ _ h => h) (Or.inl ⟨by rfl, ?_⟩) ?_ ?_
                     rotate_left
                     ·intro w'
                      go_simp
                      with_reducible rfl
                     rotate_left
                     ·simp only [Act.put, List.setIfInBounds_toArray, List.set_cons_zero, List.set_cons_succ, i64_w, i32_w]
                      rfl
                     refine pure_ (i := 47) (N := some 161) (v := ?_) (a' := ?_) #[true, true, true, true, true, true, true, true, true, true, true, true, true, true, true, true, true, true, true, true, true, true, true, true, true, true, true, true, true, true, true, true, true, true, true, true, true, true, true, true, true, true, true, true, true, true, true, true] rfl rfl (any_of HT_.out (by kernel_rfl)) (fun _ _ _ h => h) (Or.inl ⟨by rfl, ?_⟩) ?_ ?_
                     rotate_left
                     ·intro w'
                      go_simp
                      with_reducible rfl
                     rotate_left
                     ·simp only [Act.put, List.setIfInBounds_toArray, List.set_cons_zero, List.set_cons_succ, i64_w, i32_w]
                      rfl
                     refine done_ (done_of HT_.out (by kernel_rfl)) ?_
                     try go_wp2
                     go_meet
                     case rel => exact ⟨_, ((((rd_T40 t254 (ji83)).f0) == ((rd_T40 t254 x17_2).f0))), (by first | rfl | (simp; done) | (simp only [← hji83] <;> (first | rfl | simp)) | (simp [*]; done)), H', ⟨by have := HJ19.out; have := HK2.out; first | omega | exact Nat.le_refl _⟩, ⟨by (with_reducible repeat (first | apply Kd.R_alloc | apply Kd.R_drewN | apply Kd.R_drew)); exact HO_10.out⟩, ⟨by (with_reducible repeat (first | apply Kd.R_alloc | apply Kd.R_drewN | apply Kd.R_drew)); exact HO_14.out⟩, ⟨by (with_reducible repeat (first | refine blk_drewN ?_ _ | refine blk_drew ?_ | refine blk_alloc ?_ _)); exact BK236.out⟩, ⟨by (with_reducible repeat (first | refine blk_drewN ?_ _ | refine blk_drew ?_ | refine blk_alloc ?_ _)); exact BK281.out⟩, ⟨by (with_reducible repeat (first | refine blk_drewN ?_ _ | refine blk_drew ?_ | refine blk_alloc ?_ _)); exact BK283.out⟩, ⟨by repeat (first | (with_reducible first | exact HB.out | apply below_alloc | apply pw_below_drewN | apply below_drew1 | refine below_set ?_ GE236.out | refine below_set ?_ GE281.out | refine below_set ?_ GE283.out) | exact HB.out)⟩⟩
                    ·rw [if_neg c85] at H
                     exact absurd H (by simp)
                   ·rw [if_neg c84] at H
                    exact absurd H (by simp)
                  ·rw [if_neg c82] at H
                   have c82b0 : decide (0 < x17_2) = false := decide_eq_false c82
                   clear c82
                   have H' := Aside0.mk H
                   clear H
                   try go_wp2
                   have n0_ : Aside0 (Kd.R k40 40 (((((((w70.setCell ⟨gb283, 0, none⟩ (.bool ((rd_T40 t254 x17_2).f0))).setCell ⟨gb283, 1, none⟩ (.int .i64 ((rd_T40 t254 x17_2).f1.f0))).setCell ⟨gb283, 2, none⟩ (.int .i64 ((rd_T40 t254 x17_2).f1.f1))).setCell ⟨gb283, 3, none⟩ (.int .i64 ((rd_T40 t254 x17_2).f2.f0))).setCell ⟨gb283, 4, none⟩ (.int .i64 ((rd_T40 t254 x17_2).f2.f1))).setCell ⟨gb283, 5, none⟩ (.int .i64 ((rd_T40 t254 x17_2).f3.f0))).setCell ⟨gb283, 6, none⟩ (.int .i64 ((rd_T40 t254 x17_2).f3.f1))) w.heap.size (fun k_ => some k_ ≠ (v270 : Value).ownBlock ∧ k_ ≠ gb283) (.slice (some ad282) t254.length co69) t254) := ⟨by (with_reducible repeat (first | apply Kd.R_alloc | apply Kd.R_drewN | apply Kd.R_drew)); exact Kd.R_mono (Kd.R_far (p := ⟨gb283, 6, none⟩) (Kd.R_far (p := ⟨gb283, 5, none⟩) (Kd.R_far (p := ⟨gb283, 4, none⟩) (Kd.R_far (p := ⟨gb283, 3, none⟩) (Kd.R_far (p := ⟨gb283, 2, none⟩) (Kd.R_far (p := ⟨gb283, 1, none⟩) (Kd.R_far (p := ⟨gb283, 0, none⟩) (Kd.R_mono HO_10.out (fun k_ hk => (⟨hk, hk.2⟩ : _ ∧ k_ ≠ gb283))) (fun _ hk => hk.2) (.bool ((rd_T40 t254 x17_2).f0))) (fun _ hk => hk.2) (.int .i64 ((rd_T40 t254 x17_2).f1.f0))) (fun _ hk => hk.2) (.int .i64 ((rd_T40 t254 x17_2).f1.f1))) (fun _ hk => hk.2) (.int .i64 ((rd_T40 t254 x17_2).f2.f0))) (fun _ hk => hk.2) (.int .i64 ((rd_T40 t254 x17_2).f2.f1))) (fun _ hk => hk.2) (.int .i64 ((rd_T40 t254 x17_2).f3.f0))) (fun _ hk => hk.2) (.int .i64 ((rd_T40 t254 x17_2).f3.f1))) (fun _ hk => ⟨hk.1.1, hk.1.2⟩)⟩
                   have n1_ : Aside0 (Kd.R k40 40 (((((((w70.setCell ⟨gb283, 0, none⟩ (.bool ((rd_T40 t254 x17_2).f0))).setCell ⟨gb283, 1, none⟩ (.int .i64 ((rd_T40 t254 x17_2).f1.f0))).setCell ⟨gb283, 2, none⟩ (.int .i64 ((rd_T40 t254 x17_2).f1.f1))).setCell ⟨gb283, 3, none⟩ (.int .i64 ((rd_T40 t254 x17_2).f2.f0))).setCell ⟨gb283, 4, none⟩ (.int .i64 ((rd_T40 t254 x17_2).f2.f1))).setCell ⟨gb283, 5, none⟩ (.int .i64 ((rd_T40 t254 x17_2).f3.f0))).setCell ⟨gb283, 6, none⟩ (.int .i64 ((rd_T40 t254 x17_2).f3.f1))) w.heap.size (fun k_ => some k_ ≠ (.slice (some ad282) t254.length co69 : Value).ownBlock ∧ k_ ≠ gb283) v270 t268) := ⟨by (with_reducible repeat (first | apply Kd.R_alloc | apply Kd.R_drewN | apply Kd.R_drew)); exact Kd.R_mono (Kd.R_far (p := ⟨gb283, 6, none⟩) (Kd.R_far (p := ⟨gb283, 5, none⟩) (Kd.R_far (p := ⟨gb283, 4, none⟩) (Kd.R_far (p := ⟨gb283, 3, none⟩) (Kd.R_far (p := ⟨gb283, 2, none⟩) (Kd.R_far (p := ⟨gb283, 1, none⟩) (Kd.R_far (p := ⟨gb283, 0, none⟩) (Kd.R_mono HO_14.out (fun k_ hk => (⟨hk, hk.2⟩ : _ ∧ k_ ≠ gb283))) (fun _ hk => hk.2) (.bool ((rd_T40 t254 x17_2).f0))) (fun _ hk => hk.2) (.int .i64 ((rd_T40 t254 x17_2).f1.f0))) (fun _ hk => hk.2) (.int .i64 ((rd_T40 t254 x17_2).f1.f1))) (fun _ hk => hk.2) (.int .i64 ((rd_T40 t254 x17_2).f2.f0))) (fun _ hk => hk.2) (.int .i64 ((rd_T40 t254 x17_2).f2.f1))) (fun _ hk => hk.2) (.int .i64 ((rd_T40 t254 x17_2).f3.f0))) (fun _ hk => hk.2) (.int .i64 ((rd_T40 t254 x17_2).f3.f1))) (fun _ hk => ⟨hk.1.1, hk.1.2⟩)⟩
                   have n2_ : Aside0 ((((((((w70.setCell ⟨gb283, 0, none⟩ (.bool ((rd_T40 t254 x17_2).f0))).setCell ⟨gb283, 1, none⟩ (.int .i64 ((rd_T40 t254 x17_2).f1.f0))).setCell ⟨gb283, 2, none⟩ (.int .i64 ((rd_T40 t254 x17_2).f1.f1))).setCell ⟨gb283, 3, none⟩ (.int .i64 ((rd_T40 t254 x17_2).f2.f0))).setCell ⟨gb283, 4, none⟩ (.int .i64 ((rd_T40 t254 x17_2).f2.f1))).setCell ⟨gb283, 5, none⟩ (.int .i64 ((rd_T40 t254 x17_2).f3.f0))).setCell ⟨gb283, 6, none⟩ (.int .i64 ((rd_T40 t254 x17_2).f3.f1))).heap[gb236]? = some (.cells #[.int .i64 a0_0, .int .i64 a0_1, .int .i64 a0_2] 22 (0, 0))) := ⟨by (with_reducible repeat (first | refine blk_drewN ?_ _ | refine blk_drew ?_ | refine blk_alloc ?_ _)); refine blk_far ?_ NB236_283.out _; (with_reducible repeat (first | refine blk_drewN ?_ _ | refine blk_drew ?_ | refine blk_alloc ?_ _)); refine blk_far ?_ NB236_283.out _; (with_reducible repeat (first | refine blk_drewN ?_ _ | refine blk_drew ?_ | refine blk_alloc ?_ _)); refine blk_far ?_ NB236_283.out _; (with_reducible repeat (first | refine blk_drewN ?_ _ | refine blk_drew ?_ | refine blk_alloc ?_ _)); refine blk_far ?_ NB236_283.out _; (with_reducible repeat (first | refine blk_drewN ?_ _ | refine blk_drew ?_ | refine blk_alloc ?_ _)); refine blk_far ?_ NB236_283.out _; (with_reducible repeat (first | refine blk_drewN ?_ _ | refine blk_drew ?_ | refine blk_alloc ?_ _)); refine blk_far ?_ NB236_283.out _; (with_reducible repeat (first | refine blk_drewN ?_ _ | refine blk_drew ?_ | refine blk_alloc ?_ _)); refine blk_far ?_ NB236_283.out _; (with_reducible repeat (first | refine blk_drewN ?_ _ | refine blk_drew ?_ | refine blk_alloc ?_ _)); exact BK236.out⟩
                   have n3_ : Aside0 ((((((((w70.setCell ⟨gb283, 0, none⟩ (.bool ((rd_T40 t254 x17_2).f0))).setCell ⟨gb283, 1, none⟩ (.int .i64 ((rd_T40 t254 x17_2).f1.f0))).setCell ⟨gb283, 2, none⟩ (.int .i64 ((rd_T40 t254 x17_2).f1.f1))).setCell ⟨gb283, 3, none⟩ (.int .i64 ((rd_T40 t254 x17_2).f2.f0))).setCell ⟨gb283, 4, none⟩ (.int .i64 ((rd_T40 t254 x17_2).f2.f1))).setCell ⟨gb283, 5, none⟩ (.int .i64 ((rd_T40 t254 x17_2).f3.f0))).setCell ⟨gb283, 6, none⟩ (.int .i64 ((rd_T40 t254 x17_2).f3.f1))).heap[gb281]? = some (.cells #[.int .i64 x282000_2, .int .i64 x282001_2, .int .i64 x282002_2] 22 (0, 0))) := ⟨by (with_reducible repeat (first | refine blk_drewN ?_ _ | refine blk_drew ?_ | refine blk_alloc ?_ _)); refine blk_far ?_ NB281_283.out _; (with_reducible repeat (first | refine blk_drewN ?_ _ | refine blk_drew ?_ | refine blk_alloc ?_ _)); refine blk_far ?_ NB281_283.out _; (with_reducible repeat (first | refine blk_drewN ?_ _ | refine blk_drew ?_ | refine blk_alloc ?_ _)); refine blk_far ?_ NB281_283.out _; (with_reducible repeat (first | refine blk_drewN ?_ _ | refine blk_drew ?_ | refine blk_alloc ?_ _)); refine blk_far ?_ NB281_283.out _; (with_reducible repeat (first | refine blk_drewN ?_ _ | refine blk_drew ?_ | refine blk_alloc ?_ _)); refine blk_far ?_ NB281_283.out _; (with_reducible repeat (first | refine blk_drewN ?_ _ | refine blk_drew ?_ | refine blk_alloc ?_ _)); refine blk_far ?_ NB281_283.out _; (with_reducible repeat (first | refine blk_drewN ?_ _ | refine blk_drew ?_ | refine blk_alloc ?_ _)); refine blk_far ?_ NB281_283.out _; (with_reducible repeat (first | refine blk_drewN ?_ _ | refine blk_drew ?_ | refine blk_alloc ?_ _)); exact BK281.out⟩
                   have n4_ : Aside0 ((((((((w70.setCell ⟨gb283, 0, none⟩ (.bool ((rd_T40 t254 x17_2).f0))).setCell ⟨gb283, 1, none⟩ (.int .i64 ((rd_T40 t254 x17_2).f1.f0))).setCell ⟨gb283, 2, none⟩ (.int .i64 ((rd_T40 t254 x17_2).f1.f1))).setCell ⟨gb283, 3, none⟩ (.int .i64 ((rd_T40 t254 x17_2).f2.f0))).setCell ⟨gb283, 4, none⟩ (.int .i64 ((rd_T40 t254 x17_2).f2.f1))).setCell ⟨gb283, 5, none⟩ (.int .i64 ((rd_T40 t254 x17_2).f3.f0))).setCell ⟨gb283, 6, none⟩ (.int .i64 ((rd_T40 t254 x17_2).f3.f1))).heap[gb283]? = some (.cells #[.bool ((rd_T40 t254 x17_2).f0), .int .i64 ((rd_T40 t254 x17_2).f1.f0), .int .i64 ((rd_T40 t254 x17_2).f1.f1), .int .i64 ((rd_T40 t254 x17_2).f2.f0), .int .i64 ((rd_T40 t254 x17_2).f2.f1), .int .i64 ((rd_T40 t254 x17_2).f3.f0), .int .i64 ((rd_T40 t254 x17_2).f3.f1)] 40 (0, 0))) := ⟨by (with_reducible repeat (first | refine blk_drewN ?_ _ | refine blk_drew ?_ | refine blk_alloc ?_ _)); refine blk_put (cs := #[.bool ((rd_T40 t254 x17_2).f0), .int .i64 ((rd_T40 t254 x17_2).f1.f0), .int .i64 ((rd_T40 t254 x17_2).f1.f1), .int .i64 ((rd_T40 t254 x17_2).f2.f0), .int .i64 ((rd_T40 t254 x17_2).f2.f1), .int .i64 ((rd_T40 t254 x17_2).f3.f0), .int .i64 0]) ?_ 6 _ rfl; (with_reducible repeat (first | refine blk_drewN ?_ _ | refine blk_drew ?_ | refine blk_alloc ?_ _)); refine blk_put (cs := #[.bool ((rd_T40 t254 x17_2).f0), .int .i64 ((rd_T40 t254 x17_2).f1.f0), .int .i64 ((rd_T40 t254 x17_2).f1.f1), .int .i64 ((rd_T40 t254 x17_2).f2.f0), .int .i64 ((rd_T40 t254 x17_2).f2.f1), .int .i64 0, .int .i64 0]) ?_ 5 _ rfl; (with_reducible repeat (first | refine blk_drewN ?_ _ | refine blk_drew ?_ | refine blk_alloc ?_ _)); refine blk_put (cs := #[.bool ((rd_T40 t254 x17_2).f0), .int .i64 ((rd_T40 t254 x17_2).f1.f0), .int .i64 ((rd_T40 t254 x17_2).f1.f1), .int .i64 ((rd_T40 t254 x17_2).f2.f0), .int .i64 0, .int .i64 0, .int .i64 0]) ?_ 4 _ rfl; (with_reducible repeat (first | refine blk_drewN ?_ _ | refine blk_drew ?_ | refine blk_alloc ?_ _)); refine blk_put (cs := #[.bool ((rd_T40 t254 x17_2).f0), .int .i64 ((rd_T40 t254 x17_2).f1.f0), .int .i64 ((rd_T40 t254 x17_2).f1.f1), .int .i64 0, .int .i64 0, .int .i64 0, .int .i64 0]) ?_ 3 _ rfl; (with_reducible repeat (first | refine blk_drewN ?_ _ | refine blk_drew ?_ | refine blk_alloc ?_ _)); refine blk_put (cs := #[.bool ((rd_T40 t254 x17_2).f0), .int .i64 ((rd_T40 t254 x17_2).f1.f0), .int .i64 0, .int .i64 0, .int .i64 0, .int .i64 0, .int .i64 0]) ?_ 2 _ rfl; (with_reducible repeat (first | refine blk_drewN ?_ _ | refine blk_drew ?_ | refine blk_alloc ?_ _)); refine blk_put (cs := #[.bool ((rd_T40 t254 x17_2).f0), .int .i64 0, .int .i64 0, .int .i64 0, .int .i64 0, .int .i64 0, .int .i64 0]) ?_ 1 _ rfl; (with_reducible repeat (first | refine blk_drewN ?_ _ | refine blk_drew ?_ | refine blk_alloc ?_ _)); refine blk_put (cs := #[.bool false, .int .i64 0, .int .i64 0, .int .i64 0, .int .i64 0, .int .i64 0, .int .i64 0]) ?_ 0 _ rfl; (with_reducible repeat (first | refine blk_drewN ?_ _ | refine blk_drew ?_ | refine blk_alloc ?_ _)); exact BK283.out⟩
                   have n5_ : Aside0 (Below w.heap.size w (((((((w70.setCell ⟨gb283, 0, none⟩ (.bool ((rd_T40 t254 x17_2).f0))).setCell ⟨gb283, 1, none⟩ (.int .i64 ((rd_T40 t254 x17_2).f1.f0))).setCell ⟨gb283, 2, none⟩ (.int .i64 ((rd_T40 t254 x17_2).f1.f1))).setCell ⟨gb283, 3, none⟩ (.int .i64 ((rd_T40 t254 x17_2).f2.f0))).setCell ⟨gb283, 4, none⟩ (.int .i64 ((rd_T40 t254 x17_2).f2.f1))).setCell ⟨gb283, 5, none⟩ (.int .i64 ((rd_T40 t254 x17_2).f3.f0))).setCell ⟨gb283, 6, none⟩ (.int .i64 ((rd_T40 t254 x17_2).f3.f1)))) := ⟨by repeat (first | (with_reducible first | exact HB.out | apply below_alloc | apply pw_below_drewN | apply below_drew1 | refine below_set ?_ GE236.out | refine below_set ?_ GE281.out | refine below_set ?_ GE283.out) | exact HB.out)⟩
                   generalize (((((((w70.setCell ⟨gb283, 0, none⟩ (.bool ((rd_T40 t254 x17_2).f0))).setCell ⟨gb283, 1, none⟩ (.int .i64 ((rd_T40 t254 x17_2).f1.f0))).setCell ⟨gb283, 2, none⟩ (.int .i64 ((rd_T40 t254 x17_2).f1.f1))).setCell ⟨gb283, 3, none⟩ (.int .i64 ((rd_T40 t254 x17_2).f2.f0))).setCell ⟨gb283, 4, none⟩ (.int .i64 ((rd_T40 t254 x17_2).f2.f1))).setCell ⟨gb283, 5, none⟩ (.int .i64 ((rd_T40 t254 x17_2).f3.f0))).setCell ⟨gb283, 6, none⟩ (.int .i64 ((rd_T40 t254 x17_2).f3.f1))) = w92 at n0_ n1_ n2_ n3_ n4_ n5_ ⊢
                   have HO_10 := n0_
                   have HO_14 := n1_
                   have BK236 := n2_
                   have BK281 := n3_
                   have BK283 := n4_
                   have HB := n5_
                   clear n0_ n1_ n2_ n3_ n4_ n5_
                   have n0_ := Aside0.mk (Kd.R_drew HO_10.out)
                   have n1_ := Aside0.mk (Kd.R_drew HO_14.out)
                   have n2_ := Aside0.mk (blk_drew BK236.out)
                   have n3_ := Aside0.mk (blk_drew BK281.out)
                   have n4_ := Aside0.mk (blk_drew BK283.out)
                   have n5_ := Aside0.mk (below_drew1 HB.out)
                   clear HO_10
                   clear HO_14
                   clear BK236
                   clear BK281
                   clear BK283
                   clear HB
                   have HO_10 := n0_
                   have HO_14 := n1_
                   have BK236 := n2_
                   have BK281 := n3_
                   have BK283 := n4_
                   have HB := n5_
                   clear n0_ n1_ n2_ n3_ n4_ n5_
                   obtain ⟨Ao94, co94, eo94⟩ := Kd.R_slice HO_14.out
                   (first | subst eo94 | (injection eo94 with f1_ f2_ f3_; have f4_ := f1_.symm; have f5_ := f3_.symm; clear f1_ f2_ f3_; subst f4_; subst f5_))
                   have p284 : 0 ≤ (x17_2 : Int) := of_decide_eq_true (by first | (with_reducible assumption) | assumption)
                   have q284 : x17_2 < (t268.length : Int) := of_decide_eq_true (by first | (with_reducible assumption) | assumption)
                   obtain ⟨ad284, e284, hx284_0, hx284_1, hx284_2, hx284_3, hx284_4, hx284_5, hx284_6⟩ := at_T40 (Kd.R_reads' HO_14.out).2.2 x17_2 p284 q284
                   cases e284
                   replace p284 := eq_true p284
                   replace q284 := eq_true q284
                   refine start_ (n := 48) (S := fun w' => w'.cell? ⟨gb283, 0, none⟩ = some (.bool ((rd_T40 t254 x17_2).f0)) ∧ w'.cell? ⟨gb283, 1, none⟩ = some (.int .i64 ((rd_T40 t254 x17_2).f1.f0)) ∧ w'.cell? ⟨gb283, 2, none⟩ = some (.int .i64 ((rd_T40 t254 x17_2).f1.f1)) ∧ w'.cell? ⟨gb283, 3, none⟩ = some (.int .i64 ((rd_T40 t254 x17_2).f2.f0)) ∧ w'.cell? ⟨gb283, 4, none⟩ = some (.int .i64 ((rd_T40 t254 x17_2).f2.f1)) ∧ w'.cell? ⟨gb283, 5, none⟩ = some (.int .i64 ((rd_T40 t254 x17_2).f3.f0)) ∧ w'.cell? ⟨gb283, 6, none⟩ = some (.int .i64 ((rd_T40 t254 x17_2).f3.f1)) ∧ w'.cell? ⟨gb281, 0, none⟩ = some (.int .i64 x282000_2) ∧ w'.cell? ⟨gb281, 1, none⟩ = some (.int .i64 x282001_2) ∧ w'.cell? ⟨gb281, 2, none⟩ = some (.int .i64 x282002_2) ∧ w'.cell? (ad284.add ((x17_2).toNat * 7)) = some (.bool ((rd_T40 t268 x17_2).f0)) ∧ w'.cell? ⟨(ad284.add ((x17_2).toNat * 7)).block, (ad284.add ((x17_2).toNat * 7)).off + 1, none⟩ = some (.int .i64 ((rd_T40 t268 x17_2).f1.f0)) ∧ w'.cell? ⟨(ad284.add ((x17_2).toNat * 7)).block, (ad284.add ((x17_2).toNat * 7)).off + 2, none⟩ = some (.int .i64 ((rd_T40 t268 x17_2).f1.f1)) ∧ w'.cell? ⟨(ad284.add ((x17_2).toNat * 7)).block, (ad284.add ((x17_2).toNat * 7)).off + 3, none⟩ = some (.int .i64 ((rd_T40 t268 x17_2).f2.f0)) ∧ w'.cell? ⟨(ad284.add ((x17_2).toNat * 7)).block, (ad284.add ((x17_2).toNat * 7)).off + 4, none⟩ = some (.int .i64 ((rd_T40 t268 x17_2).f2.f1)) ∧ w'.cell? ⟨(ad284.add ((x17_2).toNat * 7)).block, (ad284.add ((x17_2).toNat * 7)).off + 5, none⟩ = some (.int .i64 ((rd_T40 t268 x17_2).f3.f0)) ∧ w'.cell? ⟨(ad284.add ((x17_2).toNat * 7)).block, (ad284.add ((x17_2).toNat * 7)).off + 6, none⟩ = some (.int .i64 ((rd_T40 t268 x17_2).f3.f1))) (ds := []) #[false, false, false, false, false, false, false, false, false, false, false, false, false, false, false, false, false, false, false, false, false, false, false, false, false, false, false, false, false, false, false, false, false, false, false, false, false, false, false, false, false, false, false, false, false, false, false, false] (by kernel_rfl) rfl rfl ⟨(blk_cell BK283.out 0).trans rfl, (blk_cell BK283.out 1).trans rfl, (blk_cell BK283.out 2).trans rfl, (blk_cell BK283.out 3).trans rfl, (blk_cell BK283.out 4).trans rfl, (blk_cell BK283.out 5).trans rfl, (blk_cell BK283.out 6).trans rfl, (blk_cell BK281.out 0).trans rfl, (blk_cell BK281.out 1).trans rfl, (blk_cell BK281.out 2).trans rfl, hx284_0, hx284_1, hx284_2, hx284_3, hx284_4, hx284_5, hx284_6⟩ (fun hHeld => ?_); refine with_tabW tripartitelaw06_ChunkLists.tab13 tripartitelaw06_ChunkLists.bits13 (fun HT_ HW_ => ?_)
                   generalize w92.drew = w93 at HO_10 HO_14 BK236 BK281 BK283 HB hx284_0 hx284_1 hx284_2 hx284_3 hx284_4 hx284_5 hx284_6 hHeld ⊢
                   refine pure_ (i := 0) (N := some 114) (v := ?_) (a' := ?_) #[true, false, false, false, false, false, false, false, false, false, false, false, false, false, false, false, false, false, false, false, false, false, false, false, false, false, false, false, false, false, false, false, false, false, false, false, false, false, false, false, false, false, false, false, false, false, false, false] rfl rfl (any_of HT_.out (by kernel_rfl)) (fun _ _ _ h => h) (Or.inl ⟨by rfl, ?_⟩) ?_ ?_
                   rotate_left
                   ·intro w'
                    go_simp
                    with_reducible rfl
                   rotate_left
                   ·simp only [Act.put, List.setIfInBounds_toArray, List.set_cons_zero, List.set_cons_succ, i64_w, i32_w]
                    rfl
                   refine pure_ (i := 1) (N := some 115) (v := ?_) (a' := ?_) #[true, true, false, false, false, false, false, false, false, false, false, false, false, false, false, false, false, false, false, false, false, false, false, false, false, false, false, false, false, false, false, false, false, false, false, false, false, false, false, false, false, false, false, false, false, false, false, false] rfl rfl (any_of HT_.out (by kernel_rfl)) (fun _ _ _ h => h) (Or.inl ⟨by rfl, ?_⟩) ?_ ?_
                   rotate_left
                   ·intro w'
                    go_simp
                    with_reducible rfl
                   rotate_left
                   ·simp only [Act.put, List.setIfInBounds_toArray, List.set_cons_zero, List.set_cons_succ, i64_w, i32_w]
                    rfl
                   refine pure_ (i := 2) (N := some 116) (v := ?_) (a' := ?_) #[true, true, true, false, false, false, false, false, false, false, false, false, false, false, false, false, false, false, false, false, false, false, false, false, false, false, false, false, false, false, false, false, false, false, false, false, false, false, false, false, false, false, false, false, false, false, false, false] rfl rfl (any_of HT_.out (by kernel_rfl)) (fun _ _ _ h => h) (Or.inl ⟨by rfl, ?_⟩) ?_ ?_
                   rotate_left
                   ·intro w'
                    go_simp
                    with_reducible rfl
                   rotate_left
                   ·simp only [Act.put, List.setIfInBounds_toArray, List.set_cons_zero, List.set_cons_succ, i64_w, i32_w]
                    rfl
                   refine take_ (i := 3) (N := some 117) (v := ?_) (a' := ?_) #[true, true, true, true, false, false, false, false, false, false, false, false, false, false, false, false, false, false, false, false, false, false, false, false, false, false, false, false, false, false, false, false, false, false, false, false, false, false, false, false, false, false, false, false, false, false, false, false] rfl rfl (take_ofW HT_.out HW_.out (by kernel_rfl)) (fun _ _ _ h => h) (Or.inl ⟨by rfl, ?_⟩) hHeld ?_ ?_
                   rotate_left
                   ·rintro w' ⟨s0, s1, s2, s3, s4, s5, s6, s7, s8, s9, s10, s11, s12, s13, s14, s15, s16⟩
                    go_simp
                    with_reducible rfl
                   rotate_left
                   ·simp only [Act.put, List.setIfInBounds_toArray, List.set_cons_zero, List.set_cons_succ, i64_w, i32_w]
                    rfl
                   refine take_ (i := 6) (N := some 120) (v := ?_) (a' := ?_) #[true, true, true, true, false, false, true, false, false, false, false, false, false, false, false, false, false, false, false, false, false, false, false, false, false, false, false, false, false, false, false, false, false, false, false, false, false, false, false, false, false, false, false, false, false, false, false, false] rfl rfl (take_ofW HT_.out HW_.out (by kernel_rfl)) (fun _ _ _ h => h) (Or.inl ⟨by rfl, ?_⟩) hHeld ?_ ?_
                   rotate_left
                   ·rintro w' ⟨s0, s1, s2, s3, s4, s5, s6, s7, s8, s9, s10, s11, s12, s13, s14, s15, s16⟩
                    go_simp
                    with_reducible rfl
                   rotate_left
                   ·simp only [Act.put, List.setIfInBounds_toArray, List.set_cons_zero, List.set_cons_succ, i64_w, i32_w]
                    rfl
                   refine one_ (i := 4) (N := some 118) #[true, true, true, true, true, false, true, false, false, false, false, false, false, false, false, false, false, false, false, false, false, false, false, false, false, false, false, false, false, false, false, false, false, false, false, false, false, false, false, false, false, false, false, false, false, false, false, false] rfl rfl (one_of HT_.out (by kernel_rfl)) (by decide) (fun K hK => ?_)
                   refine goes_ Try.func13 (by kernel_rfl) rfl #[.agg #[.bool ((rd_T40 t268 x17_2).f0), .int .i64 ((rd_T40 t268 x17_2).f1.f0), .int .i64 ((rd_T40 t268 x17_2).f1.f1), .int .i64 ((rd_T40 t268 x17_2).f2.f0), .int .i64 ((rd_T40 t268 x17_2).f2.f1), .int .i64 ((rd_T40 t268 x17_2).f3.f0), .int .i64 ((rd_T40 t268 x17_2).f3.f1)]] (by rfl) rfl rfl (by (try simp only [List.map_toArray, List.map_cons, List.map_nil]); first | done | rfl | (simp only [List.length_drop, List.length_take]; rfl)) ?_
                   with_reducible refine (chunk_Chunk_Turned.calls ((rd_T40 t268 x17_2).f0) ((rd_T40 t268 x17_2).f1.f0) ((rd_T40 t268 x17_2).f1.f1) ((rd_T40 t268 x17_2).f2.f0) ((rd_T40 t268 x17_2).f2.f1) ((rd_T40 t268 x17_2).f3.f0) ((rd_T40 t268 x17_2).f3.f1) t285 t286 t287 t288 t289 t290 t291 _ A75.out).mono ?_
                   rintro e w95 ⟨rfl, hb⟩
                   have HS10_ := (hb.cell (World.block_lt_of_cell? _ _ (hHeld.2.2.2.2.2.2.2.2.2.2.1))).trans (hHeld.2.2.2.2.2.2.2.2.2.2.1)
                   have HS11_ := (hb.cell (World.block_lt_of_cell? _ _ (hHeld.2.2.2.2.2.2.2.2.2.2.2.1))).trans (hHeld.2.2.2.2.2.2.2.2.2.2.2.1)
                   have HS12_ := (hb.cell (World.block_lt_of_cell? _ _ (hHeld.2.2.2.2.2.2.2.2.2.2.2.2.1))).trans (hHeld.2.2.2.2.2.2.2.2.2.2.2.2.1)
                   have HS13_ := (hb.cell (World.block_lt_of_cell? _ _ (hHeld.2.2.2.2.2.2.2.2.2.2.2.2.2.1))).trans (hHeld.2.2.2.2.2.2.2.2.2.2.2.2.2.1)
                   have HS14_ := (hb.cell (World.block_lt_of_cell? _ _ (hHeld.2.2.2.2.2.2.2.2.2.2.2.2.2.2.1))).trans (hHeld.2.2.2.2.2.2.2.2.2.2.2.2.2.2.1)
                   have HS15_ := (hb.cell (World.block_lt_of_cell? _ _ (hHeld.2.2.2.2.2.2.2.2.2.2.2.2.2.2.2.1))).trans (hHeld.2.2.2.2.2.2.2.2.2.2.2.2.2.2.2.1)
                   have HS16_ := (hb.cell (World.block_lt_of_cell? _ _ (hHeld.2.2.2.2.2.2.2.2.2.2.2.2.2.2.2.2))).trans (hHeld.2.2.2.2.2.2.2.2.2.2.2.2.2.2.2.2)
                   refine ⟨_, rfl, ?_⟩
                   have n0_ := Aside0.mk (Kd.R_below (by (with_reducible repeat (first | apply Kd.R_alloc | apply Kd.R_drewN | apply Kd.R_drew)); exact HO_10.out) hb)
                   have n1_ := Aside0.mk (Kd.R_below (by (with_reducible repeat (first | apply Kd.R_alloc | apply Kd.R_drewN | apply Kd.R_drew)); exact HO_14.out) hb)
                   have n2_ := Aside0.mk (blk_below (g := gb236) (o := .cells #[.int .i64 a0_0, .int .i64 a0_1, .int .i64 a0_2] 22 (0, 0)) (by (with_reducible repeat (first | refine blk_drewN ?_ _ | refine blk_drew ?_ | refine blk_alloc ?_ _)); exact BK236.out) hb)
                   have n3_ := Aside0.mk (blk_below (g := gb281) (o := .cells #[.int .i64 x282000_2, .int .i64 x282001_2, .int .i64 x282002_2] 22 (0, 0)) (by (with_reducible repeat (first | refine blk_drewN ?_ _ | refine blk_drew ?_ | refine blk_alloc ?_ _)); exact BK281.out) hb)
                   have n4_ := Aside0.mk (blk_below (g := gb283) (o := .cells #[.bool ((rd_T40 t254 x17_2).f0), .int .i64 ((rd_T40 t254 x17_2).f1.f0), .int .i64 ((rd_T40 t254 x17_2).f1.f1), .int .i64 ((rd_T40 t254 x17_2).f2.f0), .int .i64 ((rd_T40 t254 x17_2).f2.f1), .int .i64 ((rd_T40 t254 x17_2).f3.f0), .int .i64 ((rd_T40 t254 x17_2).f3.f1)] 40 (0, 0)) (by (with_reducible repeat (first | refine blk_drewN ?_ _ | refine blk_drew ?_ | refine blk_alloc ?_ _)); exact BK283.out) hb)
                   have n5_ := Aside0.mk (below_step (by repeat (first | (with_reducible first | exact HB.out | apply below_alloc | apply pw_below_drewN | apply below_drew1 | refine below_set ?_ GE236.out | refine below_set ?_ GE281.out | refine below_set ?_ GE283.out) | exact HB.out)) hb)
                   clear HO_10
                   clear HO_14
                   clear BK236
                   clear BK281
                   clear BK283
                   clear HB
                   have HO_10 := n0_
                   have HO_14 := n1_
                   have BK236 := n2_
                   have BK281 := n3_
                   have BK283 := n4_
                   have HB := n5_
                   clear n0_ n1_ n2_ n3_ n4_ n5_
                   refine hK.out _ _ ⟨(blk_cell BK283.out 0).trans rfl, (blk_cell BK283.out 1).trans rfl, (blk_cell BK283.out 2).trans rfl, (blk_cell BK283.out 3).trans rfl, (blk_cell BK283.out 4).trans rfl, (blk_cell BK283.out 5).trans rfl, (blk_cell BK283.out 6).trans rfl, (blk_cell BK281.out 0).trans rfl, (blk_cell BK281.out 1).trans rfl, (blk_cell BK281.out 2).trans rfl, HS10_, HS11_, HS12_, HS13_, HS14_, HS15_, HS16_⟩ (fun hHeld => ?_)
                   clear hK K
                   refine norm_ (a' := ?_) ?_ ?_
                   rotate_left
                   ·show Act.put _ (some 118) _ = _
                    simp only [Act.put, List.setIfInBounds_toArray, List.set_cons_zero, List.set_cons_succ, i64_w, i32_w]
                    rfl
                   refine one_ (i := 5) (N := some 119) #[true, true, true, true, true, true, true, false, false, false, false, false, false, false, false, false, false, false, false, false, false, false, false, false, false, false, false, false, false, false, false, false, false, false, false, false, false, false, false, false, false, false, false, false, false, false, false, false] rfl rfl (one_of HT_.out (by kernel_rfl)) (by decide) (fun K hK => ?_)
                   refine goes_ Try.func12 (by kernel_rfl) rfl #[.agg #[.bool t285, .int .i64 t286, .int .i64 t287, .int .i64 t288, .int .i64 t289, .int .i64 t290, .int .i64 t291]] (by rfl) rfl rfl (by (try simp only [List.map_toArray, List.map_cons, List.map_nil]); first | done | rfl | (simp only [List.length_drop, List.length_take]; rfl)) ?_
                   with_reducible refine (tripartitelaw06_one.calls t285 t286 t287 t288 t289 t290 t291 t292 t293 t294 t295 t296 t297 t298 _ A76.out).mono ?_
                   rintro e w96 ⟨rfl, hb⟩
                   have HS10_ := (hb.cell (World.block_lt_of_cell? _ _ (hHeld.2.2.2.2.2.2.2.2.2.2.1))).trans (hHeld.2.2.2.2.2.2.2.2.2.2.1)
                   have HS11_ := (hb.cell (World.block_lt_of_cell? _ _ (hHeld.2.2.2.2.2.2.2.2.2.2.2.1))).trans (hHeld.2.2.2.2.2.2.2.2.2.2.2.1)
                   have HS12_ := (hb.cell (World.block_lt_of_cell? _ _ (hHeld.2.2.2.2.2.2.2.2.2.2.2.2.1))).trans (hHeld.2.2.2.2.2.2.2.2.2.2.2.2.1)
                   have HS13_ := (hb.cell (World.block_lt_of_cell? _ _ (hHeld.2.2.2.2.2.2.2.2.2.2.2.2.2.1))).trans (hHeld.2.2.2.2.2.2.2.2.2.2.2.2.2.1)
                   have HS14_ := (hb.cell (World.block_lt_of_cell? _ _ (hHeld.2.2.2.2.2.2.2.2.2.2.2.2.2.2.1))).trans (hHeld.2.2.2.2.2.2.2.2.2.2.2.2.2.2.1)
                   have HS15_ := (hb.cell (World.block_lt_of_cell? _ _ (hHeld.2.2.2.2.2.2.2.2.2.2.2.2.2.2.2.1))).trans (hHeld.2.2.2.2.2.2.2.2.2.2.2.2.2.2.2.1)
                   have HS16_ := (hb.cell (World.block_lt_of_cell? _ _ (hHeld.2.2.2.2.2.2.2.2.2.2.2.2.2.2.2.2))).trans (hHeld.2.2.2.2.2.2.2.2.2.2.2.2.2.2.2.2)
                   refine ⟨_, rfl, ?_⟩
                   have n0_ := Aside0.mk (Kd.R_below (by (with_reducible repeat (first | apply Kd.R_alloc | apply Kd.R_drewN | apply Kd.R_drew)); exact HO_10.out) hb)
                   have n1_ := Aside0.mk (Kd.R_below (by (with_reducible repeat (first | apply Kd.R_alloc | apply Kd.R_drewN | apply Kd.R_drew)); exact HO_14.out) hb)
                   have n2_ := Aside0.mk (blk_below (g := gb236) (o := .cells #[.int .i64 a0_0, .int .i64 a0_1, .int .i64 a0_2] 22 (0, 0)) (by (with_reducible repeat (first | refine blk_drewN ?_ _ | refine blk_drew ?_ | refine blk_alloc ?_ _)); exact BK236.out) hb)
                   have n3_ := Aside0.mk (blk_below (g := gb281) (o := .cells #[.int .i64 x282000_2, .int .i64 x282001_2, .int .i64 x282002_2] 22 (0, 0)) (by (with_reducible repeat (first | refine blk_drewN ?_ _ | refine blk_drew ?_ | refine blk_alloc ?_ _)); exact BK281.out) hb)
                   have n4_ := Aside0.mk (blk_below (g := gb283) (o := .cells #[.bool ((rd_T40 t254 x17_2).f0), .int .i64 ((rd_T40 t254 x17_2).f1.f0), .int .i64 ((rd_T40 t254 x17_2).f1.f1), .int .i64 ((rd_T40 t254 x17_2).f2.f0), .int .i64 ((rd_T40 t254 x17_2).f2.f1), .int .i64 ((rd_T40 t254 x17_2).f3.f0), .int .i64 ((rd_T40 t254 x17_2).f3.f1)] 40 (0, 0)) (by (with_reducible repeat (first | refine blk_drewN ?_ _ | refine blk_drew ?_ | refine blk_alloc ?_ _)); exact BK283.out) hb)
                   have n5_ := Aside0.mk (below_step (by repeat (first | (with_reducible first | exact HB.out | apply below_alloc | apply pw_below_drewN | apply below_drew1 | refine below_set ?_ GE236.out | refine below_set ?_ GE281.out | refine below_set ?_ GE283.out) | exact HB.out)) hb)
                   clear HO_10
                   clear HO_14
                   clear BK236
                   clear BK281
                   clear BK283
                   clear HB
                   have HO_10 := n0_
                   have HO_14 := n1_
                   have BK236 := n2_
                   have BK281 := n3_
                   have BK283 := n4_
                   have HB := n5_
                   clear n0_ n1_ n2_ n3_ n4_ n5_
                   refine hK.out _ _ ⟨(blk_cell BK283.out 0).trans rfl, (blk_cell BK283.out 1).trans rfl, (blk_cell BK283.out 2).trans rfl, (blk_cell BK283.out 3).trans rfl, (blk_cell BK283.out 4).trans rfl, (blk_cell BK283.out 5).trans rfl, (blk_cell BK283.out 6).trans rfl, (blk_cell BK281.out 0).trans rfl, (blk_cell BK281.out 1).trans rfl, (blk_cell BK281.out 2).trans rfl, HS10_, HS11_, HS12_, HS13_, HS14_, HS15_, HS16_⟩ (fun hHeld => ?_)
                   clear hK K
                   refine norm_ (a' := ?_) ?_ ?_
                   rotate_left
                   ·show Act.put _ (some 119) _ = _
                    simp only [Act.put, List.setIfInBounds_toArray, List.set_cons_zero, List.set_cons_succ, i64_w, i32_w]
                    rfl
                   refine one_ (i := 7) (N := some 121) #[true, true, true, true, true, true, true, true, false, false, false, false, false, false, false, false, false, false, false, false, false, false, false, false, false, false, false, false, false, false, false, false, false, false, false, false, false, false, false, false, false, false, false, false, false, false, false, false] rfl rfl (one_of HT_.out (by kernel_rfl)) (by decide) (fun K hK => ?_)
                   refine goes_ Try.func12 (by kernel_rfl) rfl #[.agg #[.bool ((rd_T40 t254 x17_2).f0), .int .i64 ((rd_T40 t254 x17_2).f1.f0), .int .i64 ((rd_T40 t254 x17_2).f1.f1), .int .i64 ((rd_T40 t254 x17_2).f2.f0), .int .i64 ((rd_T40 t254 x17_2).f2.f1), .int .i64 ((rd_T40 t254 x17_2).f3.f0), .int .i64 ((rd_T40 t254 x17_2).f3.f1)]] (by rfl) rfl rfl (by (try simp only [List.map_toArray, List.map_cons, List.map_nil]); first | done | rfl | (simp only [List.length_drop, List.length_take]; rfl)) ?_
                   with_reducible refine (tripartitelaw06_one.calls ((rd_T40 t254 x17_2).f0) ((rd_T40 t254 x17_2).f1.f0) ((rd_T40 t254 x17_2).f1.f1) ((rd_T40 t254 x17_2).f2.f0) ((rd_T40 t254 x17_2).f2.f1) ((rd_T40 t254 x17_2).f3.f0) ((rd_T40 t254 x17_2).f3.f1) t299 t300 t301 t302 t303 t304 t305 _ A77.out).mono ?_
                   rintro e w97 ⟨rfl, hb⟩
                   have HS10_ := (hb.cell (World.block_lt_of_cell? _ _ (hHeld.2.2.2.2.2.2.2.2.2.2.1))).trans (hHeld.2.2.2.2.2.2.2.2.2.2.1)
                   have HS11_ := (hb.cell (World.block_lt_of_cell? _ _ (hHeld.2.2.2.2.2.2.2.2.2.2.2.1))).trans (hHeld.2.2.2.2.2.2.2.2.2.2.2.1)
                   have HS12_ := (hb.cell (World.block_lt_of_cell? _ _ (hHeld.2.2.2.2.2.2.2.2.2.2.2.2.1))).trans (hHeld.2.2.2.2.2.2.2.2.2.2.2.2.1)
                   have HS13_ := (hb.cell (World.block_lt_of_cell? _ _ (hHeld.2.2.2.2.2.2.2.2.2.2.2.2.2.1))).trans (hHeld.2.2.2.2.2.2.2.2.2.2.2.2.2.1)
                   have HS14_ := (hb.cell (World.block_lt_of_cell? _ _ (hHeld.2.2.2.2.2.2.2.2.2.2.2.2.2.2.1))).trans (hHeld.2.2.2.2.2.2.2.2.2.2.2.2.2.2.1)
                   have HS15_ := (hb.cell (World.block_lt_of_cell? _ _ (hHeld.2.2.2.2.2.2.2.2.2.2.2.2.2.2.2.1))).trans (hHeld.2.2.2.2.2.2.2.2.2.2.2.2.2.2.2.1)
                   have HS16_ := (hb.cell (World.block_lt_of_cell? _ _ (hHeld.2.2.2.2.2.2.2.2.2.2.2.2.2.2.2.2))).trans (hHeld.2.2.2.2.2.2.2.2.2.2.2.2.2.2.2.2)
                   refine ⟨_, rfl, ?_⟩
                   have n0_ := Aside0.mk (Kd.R_below (by (with_reducible repeat (first | apply Kd.R_alloc | apply Kd.R_drewN | apply Kd.R_drew)); exact HO_10.out) hb)
                   have n1_ := Aside0.mk (Kd.R_below (by (with_reducible repeat (first | apply Kd.R_alloc | apply Kd.R_drewN | apply Kd.R_drew)); exact HO_14.out) hb)
                   have n2_ := Aside0.mk (blk_below (g := gb236) (o := .cells #[.int .i64 a0_0, .int .i64 a0_1, .int .i64 a0_2] 22 (0, 0)) (by (with_reducible repeat (first | refine blk_drewN ?_ _ | refine blk_drew ?_ | refine blk_alloc ?_ _)); exact BK236.out) hb)
                   have n3_ := Aside0.mk (blk_below (g := gb281) (o := .cells #[.int .i64 x282000_2, .int .i64 x282001_2, .int .i64 x282002_2] 22 (0, 0)) (by (with_reducible repeat (first | refine blk_drewN ?_ _ | refine blk_drew ?_ | refine blk_alloc ?_ _)); exact BK281.out) hb)
                   have n4_ := Aside0.mk (blk_below (g := gb283) (o := .cells #[.bool ((rd_T40 t254 x17_2).f0), .int .i64 ((rd_T40 t254 x17_2).f1.f0), .int .i64 ((rd_T40 t254 x17_2).f1.f1), .int .i64 ((rd_T40 t254 x17_2).f2.f0), .int .i64 ((rd_T40 t254 x17_2).f2.f1), .int .i64 ((rd_T40 t254 x17_2).f3.f0), .int .i64 ((rd_T40 t254 x17_2).f3.f1)] 40 (0, 0)) (by (with_reducible repeat (first | refine blk_drewN ?_ _ | refine blk_drew ?_ | refine blk_alloc ?_ _)); exact BK283.out) hb)
                   have n5_ := Aside0.mk (below_step (by repeat (first | (with_reducible first | exact HB.out | apply below_alloc | apply pw_below_drewN | apply below_drew1 | refine below_set ?_ GE236.out | refine below_set ?_ GE281.out | refine below_set ?_ GE283.out) | exact HB.out)) hb)
                   clear HO_10
                   clear HO_14
                   clear BK236
                   clear BK281
                   clear BK283
                   clear HB
                   have HO_10 := n0_
                   have HO_14 := n1_
                   have BK236 := n2_
                   have BK281 := n3_
                   have BK283 := n4_
                   have HB := n5_
                   clear n0_ n1_ n2_ n3_ n4_ n5_
                   refine hK.out _ _ ⟨(blk_cell BK283.out 0).trans rfl, (blk_cell BK283.out 1).trans rfl, (blk_cell BK283.out 2).trans rfl, (blk_cell BK283.out 3).trans rfl, (blk_cell BK283.out 4).trans rfl, (blk_cell BK283.out 5).trans rfl, (blk_cell BK283.out 6).trans rfl, (blk_cell BK281.out 0).trans rfl, (blk_cell BK281.out 1).trans rfl, (blk_cell BK281.out 2).trans rfl, HS10_, HS11_, HS12_, HS13_, HS14_, HS15_, HS16_⟩ (fun hHeld => ?_)
                   clear hK K
                   refine norm_ (a' := ?_) ?_ ?_
                   rotate_left
                   ·show Act.put _ (some 121) _ = _
                    simp only [Act.put, List.setIfInBounds_toArray, List.set_cons_zero, List.set_cons_succ, i64_w, i32_w]
                    rfl
                   refine pure_ (i := 8) (N := some 122) (v := ?_) (a' := ?_) #[true, true, true, true, true, true, true, true, true, false, false, false, false, false, false, false, false, false, false, false, false, false, false, false, false, false, false, false, false, false, false, false, false, false, false, false, false, false, false, false, false, false, false, false, false, false, false, false] rfl rfl (any_of HT_.out (by kernel_rfl)) (fun _ _ _ h => h) (Or.inl ⟨by rfl, ?_⟩) ?_ ?_
                   rotate_left
                   ·intro w'
                    go_simp
                    with_reducible rfl
                   rotate_left
                   ·simp only [Act.put, List.setIfInBounds_toArray, List.set_cons_zero, List.set_cons_succ, i64_w, i32_w]
                    rfl
                   refine pure_ (i := 9) (N := some 123) (v := ?_) (a' := ?_) #[true, true, true, true, true, true, true, true, true, true, false, false, false, false, false, false, false, false, false, false, false, false, false, false, false, false, false, false, false, false, false, false, false, false, false, false, false, false, false, false, false, false, false, false, false, false, false, false] rfl rfl (any_of HT_.out (by kernel_rfl)) (fun _ _ _ h => h) (Or.inl ⟨by rfl, ?_⟩) ?_ ?_
                   rotate_left
                   ·intro w'
                    go_simp
                    with_reducible rfl
                   rotate_left
                   ·simp only [Act.put, List.setIfInBounds_toArray, List.set_cons_zero, List.set_cons_succ, i64_w, i32_w]
                    rfl
                   refine pure_ (i := 10) (N := some 124) (v := ?_) (a' := ?_) #[true, true, true, true, true, true, true, true, true, true, true, false, false, false, false, false, false, false, false, false, false, false, false, false, false, false, false, false, false, false, false, false, false, false, false, false, false, false, false, false, false, false, false, false, false, false, false, false] rfl rfl (any_of HT_.out (by kernel_rfl)) (fun _ _ _ h => h) (Or.inl ⟨by rfl, ?_⟩) ?_ ?_
                   rotate_left
                   ·intro w'
                    go_simp
                    with_reducible rfl
                   rotate_left
                   ·simp only [Act.put, List.setIfInBounds_toArray, List.set_cons_zero, List.set_cons_succ, i64_w, i32_w]
                    rfl
                   refine pure_ (i := 11) (N := some 125) (v := ?_) (a' := ?_) #[true, true, true, true, true, true, true, true, true, true, true, true, false, false, false, false, false, false, false, false, false, false, false, false, false, false, false, false, false, false, false, false, false, false, false, false, false, false, false, false, false, false, false, false, false, false, false, false] rfl rfl (any_of HT_.out (by kernel_rfl)) (fun _ _ _ h => h) (Or.inl ⟨by rfl, ?_⟩) ?_ ?_
                   rotate_left
                   ·intro w'
                    go_simp
                    with_reducible rfl
                   rotate_left
                   ·simp only [Act.put, List.setIfInBounds_toArray, List.set_cons_zero, List.set_cons_succ, i64_w, i32_w]
                    rfl
                   refine pure_ (i := 13) (N := some 127) (v := ?_) (a' := ?_) #[true, true, true, true, true, true, true, true, true, true, true, true, false, true, false, false, false, false, false, false, false, false, false, false, false, false, false, false, false, false, false, false, false, false, false, false, false, false, false, false, false, false, false, false, false, false, false, false] rfl rfl (any_of HT_.out (by kernel_rfl)) (fun _ _ _ h => h) (Or.inl ⟨by rfl, ?_⟩) ?_ ?_
                   rotate_left
                   ·intro w'
                    go_simp
                    with_reducible rfl
                   rotate_left
                   ·simp only [Act.put, List.setIfInBounds_toArray, List.set_cons_zero, List.set_cons_succ, i64_w, i32_w]
                    rfl
                   refine take_ (i := 12) (N := some 126) (v := ?_) (a' := ?_) #[true, true, true, true, true, true, true, true, true, true, true, true, true, true, false, false, false, false, false, false, false, false, false, false, false, false, false, false, false, false, false, false, false, false, false, false, false, false, false, false, false, false, false, false, false, false, false, false] rfl rfl (take_ofW HT_.out HW_.out (by kernel_rfl)) (fun _ _ _ h => h) (Or.inl ⟨by rfl, ?_⟩) hHeld ?_ ?_
                   rotate_left
                   ·rintro w' ⟨s0, s1, s2, s3, s4, s5, s6, s7, s8, s9, s10, s11, s12, s13, s14, s15, s16⟩
                    go_simp
                    with_reducible rfl
                   rotate_left
                   ·simp only [Act.put, List.setIfInBounds_toArray, List.set_cons_zero, List.set_cons_succ, i64_w, i32_w]
                    rfl
                   refine take_ (i := 14) (N := some 128) (v := ?_) (a' := ?_) #[true, true, true, true, true, true, true, true, true, true, true, true, true, true, true, false, false, false, false, false, false, false, false, false, false, false, false, false, false, false, false, false, false, false, false, false, false, false, false, false, false, false, false, false, false, false, false, false] rfl rfl (take_ofW HT_.out HW_.out (by kernel_rfl)) (fun _ _ _ h => h) (Or.inl ⟨by rfl, ?_⟩) hHeld ?_ ?_
                   rotate_left
                   ·rintro w' ⟨s0, s1, s2, s3, s4, s5, s6, s7, s8, s9, s10, s11, s12, s13, s14, s15, s16⟩
                    go_simp
                    with_reducible rfl
                   rotate_left
                   ·simp only [Act.put, List.setIfInBounds_toArray, List.set_cons_zero, List.set_cons_succ, i64_w, i32_w]
                    rfl
                   refine pure_ (i := 15) (N := some 129) (v := ?_) (a' := ?_) #[true, true, true, true, true, true, true, true, true, true, true, true, true, true, true, true, false, false, false, false, false, false, false, false, false, false, false, false, false, false, false, false, false, false, false, false, false, false, false, false, false, false, false, false, false, false, false, false] rfl rfl (any_of HT_.out (by kernel_rfl)) (fun _ _ _ h => h) (Or.inl ⟨by rfl, ?_⟩) ?_ ?_
                   rotate_left
                   ·intro w'
                    go_simp
                    with_reducible rfl
                   rotate_left
                   ·simp only [Act.put, List.setIfInBounds_toArray, List.set_cons_zero, List.set_cons_succ, i64_w, i32_w]
                    rfl
                   refine pure_ (i := 16) (N := some 130) (v := ?_) (a' := ?_) #[true, true, true, true, true, true, true, true, true, true, true, true, true, true, true, true, true, false, false, false, false, false, false, false, false, false, false, false, false, false, false, false, false, false, false, false, false, false, false, false, false, false, false, false, false, false, false, false] rfl rfl (any_of HT_.out (by kernel_rfl)) (fun _ _ _ h => h) (Or.inl ⟨by rfl, ?_⟩) ?_ ?_
                   rotate_left
                   ·intro w'
                    go_simp
                    with_reducible rfl
                   rotate_left
                   ·simp only [Act.put, List.setIfInBounds_toArray, List.set_cons_zero, List.set_cons_succ, i64_w, i32_w]
                    rfl
                   refine pure_ (i := 17) (N := some 131) (v := ?_) (a' := ?_) #[true, true, true, true, true, true, true, true, true, true, true, true, true, true, true, true, true, true, false, false, false, false, false, false, false, false, false, false, false, false, false, false, false, false, false, false, false, false, false, false, false, false, false, false, false, false, false, false] rfl rfl (any_of HT_.out (by kernel_rfl)) (fun _ _ _ h => h) (Or.inl ⟨by rfl, ?_⟩) ?_ ?_
                   rotate_left
                   ·intro w'
                    go_simp
                    with_reducible rfl
                   rotate_left
                   ·simp only [Act.put, List.setIfInBounds_toArray, List.set_cons_zero, List.set_cons_succ, i64_w, i32_w]
                    rfl
                   refine pure_ (i := 18) (N := some 132) (v := ?_) (a' := ?_) #[true, true, true, true, true, true, true, true, true, true, true, true, true, true, true, true, true, true, true, false, false, false, false, false, false, false, false, false, false, false, false, false, false, false, false, false, false, false, false, false, false, false, false, false, false, false, false, false] rfl rfl (any_of HT_.out (by kernel_rfl)) (fun _ _ _ h => h) (Or.inl ⟨by rfl, ?_⟩) ?_ ?_
                   rotate_left
                   ·intro w'
                    go_simp
                    with_reducible rfl
                   rotate_left
                   ·simp only [Act.put, List.setIfInBounds_toArray, List.set_cons_zero, List.set_cons_succ, i64_w, i32_w]
                    rfl
                   refine pure_ (i := 19) (N := some 133) (v := ?_) (a' := ?_) #[true, true, true, true, true, true, true, true, true, true, true, true, true, true, true, true, true, true, true, true, false, false, false, false, false, false, false, false, false, false, false, false, false, false, false, false, false, false, false, false, false, false, false, false, false, false, false, false] rfl rfl (any_of HT_.out (by kernel_rfl)) (fun _ _ _ h => h) (Or.inl ⟨by rfl, ?_⟩) ?_ ?_
                   rotate_left
                   ·intro w'
                    go_simp
                    with_reducible rfl
                   rotate_left
                   ·simp only [Act.put, List.setIfInBounds_toArray, List.set_cons_zero, List.set_cons_succ, i64_w, i32_w]
                    rfl
                   refine pure_ (i := 21) (N := some 135) (v := ?_) (a' := ?_) #[true, true, true, true, true, true, true, true, true, true, true, true, true, true, true, true, true, true, true, true, false, true, false, false, false, false, false, false, false, false, false, false, false, false, false, false, false, false, false, false, false, false, false, false, false, false, false, false] rfl rfl (any_of HT_.out (by kernel_rfl)) (fun _ _ _ h => h) (Or.inl ⟨by rfl, ?_⟩) ?_ ?_
                   rotate_left
                   ·intro w'
                    go_simp
                    with_reducible rfl
                   rotate_left
                   ·simp only [Act.put, List.setIfInBounds_toArray, List.set_cons_zero, List.set_cons_succ, i64_w, i32_w]
                    rfl
                   refine take_ (i := 20) (N := some 134) (v := ?_) (a' := ?_) #[true, true, true, true, true, true, true, true, true, true, true, true, true, true, true, true, true, true, true, true, true, true, false, false, false, false, false, false, false, false, false, false, false, false, false, false, false, false, false, false, false, false, false, false, false, false, false, false] rfl rfl (take_ofW HT_.out HW_.out (by kernel_rfl)) (fun _ _ _ h => h) (Or.inl ⟨by rfl, ?_⟩) hHeld ?_ ?_
                   rotate_left
                   ·rintro w' ⟨s0, s1, s2, s3, s4, s5, s6, s7, s8, s9, s10, s11, s12, s13, s14, s15, s16⟩
                    go_simp
                    with_reducible rfl
                   rotate_left
                   ·simp only [Act.put, List.setIfInBounds_toArray, List.set_cons_zero, List.set_cons_succ, i64_w, i32_w]
                    rfl
                   refine take_ (i := 22) (N := some 136) (v := ?_) (a' := ?_) #[true, true, true, true, true, true, true, true, true, true, true, true, true, true, true, true, true, true, true, true, true, true, true, false, false, false, false, false, false, false, false, false, false, false, false, false, false, false, false, false, false, false, false, false, false, false, false, false] rfl rfl (take_ofW HT_.out HW_.out (by kernel_rfl)) (fun _ _ _ h => h) (Or.inl ⟨by rfl, ?_⟩) hHeld ?_ ?_
                   rotate_left
                   ·rintro w' ⟨s0, s1, s2, s3, s4, s5, s6, s7, s8, s9, s10, s11, s12, s13, s14, s15, s16⟩
                    go_simp
                    with_reducible rfl
                   rotate_left
                   ·simp only [Act.put, List.setIfInBounds_toArray, List.set_cons_zero, List.set_cons_succ, i64_w, i32_w]
                    rfl
                   refine pure_ (i := 23) (N := some 137) (v := ?_) (a' := ?_) #[true, true, true, true, true, true, true, true, true, true, true, true, true, true, true, true, true, true, true, true, true, true, true, true, false, false, false, false, false, false, false, false, false, false, false, false, false, false, false, false, false, false, false, false, false, false, false, false] rfl rfl (any_of HT_.out (by kernel_rfl)) (fun _ _ _ h => h) (Or.inl ⟨by rfl, ?_⟩) ?_ ?_
                   rotate_left
                   ·intro w'
                    go_simp
                    with_reducible rfl
                   rotate_left
                   ·simp only [Act.put, List.setIfInBounds_toArray, List.set_cons_zero, List.set_cons_succ, i64_w, i32_w]
                    rfl
                   refine pure_ (i := 24) (N := some 138) (v := ?_) (a' := ?_) #[true, true, true, true, true, true, true, true, true, true, true, true, true, true, true, true, true, true, true, true, true, true, true, true, true, false, false, false, false, false, false, false, false, false, false, false, false, false, false, false, false, false, false, false, false, false, false, false] rfl rfl (any_of HT_.out (by kernel_rfl)) (fun _ _ _ h => h) (Or.inl ⟨by rfl, ?_⟩) ?_ ?_
                   rotate_left
                   ·intro w'
                    go_simp
                    with_reducible rfl
                   rotate_left
                   ·simp only [Act.put, List.setIfInBounds_toArray, List.set_cons_zero, List.set_cons_succ, i64_w, i32_w]
                    rfl
                   refine pure_ (i := 25) (N := some 139) (v := ?_) (a' := ?_) #[true, true, true, true, true, true, true, true, true, true, true, true, true, true, true, true, true, true, true, true, true, true, true, true, true, true, false, false, false, false, false, false, false, false, false, false, false, false, false, false, false, false, false, false, false, false, false, false] rfl rfl (any_of HT_.out (by kernel_rfl)) (fun _ _ _ h => h) (Or.inl ⟨by rfl, ?_⟩) ?_ ?_
                   rotate_left
                   ·intro w'
                    go_simp
                    with_reducible rfl
                   rotate_left
                   ·simp only [Act.put, List.setIfInBounds_toArray, List.set_cons_zero, List.set_cons_succ, i64_w, i32_w]
                    rfl
                   refine pure_ (i := 26) (N := some 140) (v := ?_) (a' := ?_) #[true, true, true, true, true, true, true, true, true, true, true, true, true, true, true, true, true, true, true, true, true, true, true, true, true, true, true, false, false, false, false, false, false, false, false, false, false, false, false, false, false, false, false, false, false, false, false, false] rfl rfl (any_of HT_.out (by kernel_rfl)) (fun _ _ _ h => h) (Or.inl ⟨by rfl, ?_⟩) ?_ ?_
                   rotate_left
                   ·intro w'
                    go_simp
                    with_reducible rfl
                   rotate_left
                   ·simp only [Act.put, List.setIfInBounds_toArray, List.set_cons_zero, List.set_cons_succ, i64_w, i32_w]
                    rfl
                   refine pure_ (i := 27) (N := some 141) (v := ?_) (a' := ?_) #[true, true, true, true, true, true, true, true, true, true, true, true, true, true, true, true, true, true, true, true, true, true, true, true, true, true, true, true, false, false, false, false, false, false, false, false, false, false, false, false, false, false, false, false, false, false, false, false] rfl rfl (any_of HT_.out (by kernel_rfl)) (fun _ _ _ h => h) (Or.inl ⟨by rfl, ?_⟩) ?_ ?_
                   rotate_left
                   ·intro w'
                    go_simp
                    with_reducible rfl
                   rotate_left
                   ·simp only [Act.put, List.setIfInBounds_toArray, List.set_cons_zero, List.set_cons_succ, i64_w, i32_w]
                    rfl
                   refine pure_ (i := 29) (N := some 143) (v := ?_) (a' := ?_) #[true, true, true, true, true, true, true, true, true, true, true, true, true, true, true, true, true, true, true, true, true, true, true, true, true, true, true, true, false, true, false, false, false, false, false, false, false, false, false, false, false, false, false, false, false, false, false, false] rfl rfl (any_of HT_.out (by kernel_rfl)) (fun _ _ _ h => h) (Or.inl ⟨by rfl, ?_⟩) ?_ ?_
                   rotate_left
                   ·intro w'
                    go_simp
                    with_reducible rfl
                   rotate_left
                   ·simp only [Act.put, List.setIfInBounds_toArray, List.set_cons_zero, List.set_cons_succ, i64_w, i32_w]
                    rfl
                   refine take_ (i := 28) (N := some 142) (v := ?_) (a' := ?_) #[true, true, true, true, true, true, true, true, true, true, true, true, true, true, true, true, true, true, true, true, true, true, true, true, true, true, true, true, true, true, false, false, false, false, false, false, false, false, false, false, false, false, false, false, false, false, false, false] rfl rfl (take_ofW HT_.out HW_.out (by kernel_rfl)) (fun _ _ _ h => h) (Or.inl ⟨by rfl, ?_⟩) hHeld ?_ ?_
                   rotate_left
                   ·rintro w' ⟨s0, s1, s2, s3, s4, s5, s6, s7, s8, s9, s10, s11, s12, s13, s14, s15, s16⟩
                    go_simp
                    with_reducible rfl
                   rotate_left
                   ·simp only [Act.put, List.setIfInBounds_toArray, List.set_cons_zero, List.set_cons_succ, i64_w, i32_w]
                    rfl
                   refine take_ (i := 30) (N := some 144) (v := ?_) (a' := ?_) #[true, true, true, true, true, true, true, true, true, true, true, true, true, true, true, true, true, true, true, true, true, true, true, true, true, true, true, true, true, true, true, false, false, false, false, false, false, false, false, false, false, false, false, false, false, false, false, false] rfl rfl (take_ofW HT_.out HW_.out (by kernel_rfl)) (fun _ _ _ h => h) (Or.inl ⟨by rfl, ?_⟩) hHeld ?_ ?_
                   rotate_left
                   ·rintro w' ⟨s0, s1, s2, s3, s4, s5, s6, s7, s8, s9, s10, s11, s12, s13, s14, s15, s16⟩
                    go_simp
                    with_reducible rfl
                   rotate_left
                   ·simp only [Act.put, List.setIfInBounds_toArray, List.set_cons_zero, List.set_cons_succ, i64_w, i32_w]
                    rfl
                   refine pure_ (i := 31) (N := some 145) (v := ?_) (a' := ?_) #[true, true, true, true, true, true, true, true, true, true, true, true, true, true, true, true, true, true, true, true, true, true, true, true, true, true, true, true, true, true, true, true, false, false, false, false, false, false, false, false, false, false, false, false, false, false, false, false] rfl rfl (any_of HT_.out (by kernel_rfl)) (fun _ _ _ h => h) (Or.inl ⟨by rfl, ?_⟩) ?_ ?_
                   rotate_left
                   ·intro w'
                    go_simp
                    with_reducible rfl
                   rotate_left
                   ·simp only [Act.put, List.setIfInBounds_toArray, List.set_cons_zero, List.set_cons_succ, i64_w, i32_w]
                    rfl
                   refine pure_ (i := 32) (N := some 146) (v := ?_) (a' := ?_) #[true, true, true, true, true, true, true, true, true, true, true, true, true, true, true, true, true, true, true, true, true, true, true, true, true, true, true, true, true, true, true, true, true, false, false, false, false, false, false, false, false, false, false, false, false, false, false, false] rfl rfl (any_of HT_.out (by kernel_rfl)) (fun _ _ _ h => h) (Or.inl ⟨by rfl, ?_⟩) ?_ ?_
                   rotate_left
                   ·intro w'
                    go_simp
                    with_reducible rfl
                   rotate_left
                   ·simp only [Act.put, List.setIfInBounds_toArray, List.set_cons_zero, List.set_cons_succ, i64_w, i32_w]
                    rfl
                   refine pure_ (i := 33) (N := some 147) (v := ?_) (a' := ?_) #[true, true, true, true, true, true, true, true, true, true, true, true, true, true, true, true, true, true, true, true, true, true, true, true, true, true, true, true, true, true, true, true, true, true, false, false, false, false, false, false, false, false, false, false, false, false, false, false] rfl rfl (any_of HT_.out (by kernel_rfl)) (fun _ _ _ h => h) (Or.inl ⟨by rfl, ?_⟩) ?_ ?_
                   rotate_left
                   ·intro w'
                    go_simp
                    with_reducible rfl
                   rotate_left
                   ·simp only [Act.put, List.setIfInBounds_toArray, List.set_cons_zero, List.set_cons_succ, i64_w, i32_w]
                    rfl
                   refine pure_ (i := 34) (N := some 148) (v := ?_) (a' := ?_) #[true, true, true, true, true, true, true, true, true, true, true, true, true, true, true, true, true, true, true, true, true, true, true, true, true, true, true, true, true, true, true, true, true, true, true, false, false, false, false, false, false, false, false, false, false, false, false, false] rfl rfl (any_of HT_.out (by kernel_rfl)) (fun _ _ _ h => h) (Or.inl ⟨by rfl, ?_⟩) ?_ ?_
                   rotate_left
                   ·intro w'
                    go_simp
                    with_reducible rfl
                   rotate_left
                   ·simp only [Act.put, List.setIfInBounds_toArray, List.set_cons_zero, List.set_cons_succ, i64_w, i32_w]
                    rfl
                   refine pure_ (i := 35) (N := some 149) (v := ?_) (a' := ?_) #[true, true, true, true, true, true, true, true, true, true, true, true, true, true, true, true, true, true, true, true, true, true, true, true, true, true, true, true, true, true, true, true, true, true, true, true, false, false, false, false, false, false, false, false, false, false, false, false] rfl rfl (any_of HT_.out (by kernel_rfl)) (fun _ _ _ h => h) (Or.inl ⟨by rfl, ?_⟩) ?_ ?_
                   rotate_left
                   ·intro w'
                    go_simp
                    with_reducible rfl
                   rotate_left
                   ·simp only [Act.put, List.setIfInBounds_toArray, List.set_cons_zero, List.set_cons_succ, i64_w, i32_w]
                    rfl
                   refine pure_ (i := 36) (N := some 150) (v := ?_) (a' := ?_) #[true, true, true, true, true, true, true, true, true, true, true, true, true, true, true, true, true, true, true, true, true, true, true, true, true, true, true, true, true, true, true, true, true, true, true, true, true, false, false, false, false, false, false, false, false, false, false, false] rfl rfl (any_of HT_.out (by kernel_rfl)) (fun _ _ _ h => h) (Or.inl ⟨by rfl, ?_⟩) ?_ ?_
                   rotate_left
                   ·intro w'
                    go_simp
                    with_reducible rfl
                   rotate_left
                   ·simp only [Act.put, List.setIfInBounds_toArray, List.set_cons_zero, List.set_cons_succ, i64_w, i32_w]
                    rfl
                   refine pure_ (i := 37) (N := some 151) (v := undef) (a' := ?_) #[true, true, true, true, true, true, true, true, true, true, true, true, true, true, true, true, true, true, true, true, true, true, true, true, true, true, true, true, true, true, true, true, true, true, true, true, true, true, false, false, false, false, false, false, false, false, false, false] rfl rfl (any_of HT_.out (by kernel_rfl)) (fun _ _ _ h => h) (Or.inr ⟨by rfl, rfl⟩) ?_ ?_
                   rotate_left
                   ·simp only [Act.put, List.setIfInBounds_toArray, List.set_cons_zero, List.set_cons_succ, i64_w, i32_w]
                    rfl
                   refine pure_ (i := 38) (N := some 152) (v := undef) (a' := ?_) #[true, true, true, true, true, true, true, true, true, true, true, true, true, true, true, true, true, true, true, true, true, true, true, true, true, true, true, true, true, true, true, true, true, true, true, true, true, true, true, false, false, false, false, false, false, false, false, false] rfl rfl (any_of HT_.out (by kernel_rfl)) (fun _ _ _ h => h) (Or.inr ⟨by rfl, rfl⟩) ?_ ?_
                   rotate_left
                   ·simp only [Act.put, List.setIfInBounds_toArray, List.set_cons_zero, List.set_cons_succ, i64_w, i32_w]
                    rfl
                   refine pure_ (i := 39) (N := some 153) (v := undef) (a' := ?_) #[true, true, true, true, true, true, true, true, true, true, true, true, true, true, true, true, true, true, true, true, true, true, true, true, true, true, true, true, true, true, true, true, true, true, true, true, true, true, true, true, false, false, false, false, false, false, false, false] rfl rfl (any_of HT_.out (by kernel_rfl)) (fun _ _ _ h => h) (Or.inr ⟨by rfl, rfl⟩) ?_ ?_
                   rotate_left
                   ·simp only [Act.put, List.setIfInBounds_toArray, List.set_cons_zero, List.set_cons_succ, i64_w, i32_w]
                    rfl
                   refine pure_ (i := 40) (N := some 154) (v := undef) (a' := ?_) #[true, true, true, true, true, true, true, true, true, true, true, true, true, true, true, true, true, true, true, true, true, true, true, true, true, true, true, true, true, true, true, true, true, true, true, true, true, true, true, true, true, false, false, false, false, false, false, false] rfl rfl (any_of HT_.out (by kernel_rfl)) (fun _ _ _ h => h) (Or.inr ⟨by rfl, rfl⟩) ?_ ?_
                   rotate_left
                   ·simp only [Act.put, List.setIfInBounds_toArray, List.set_cons_zero, List.set_cons_succ, i64_w, i32_w]
                    rfl
                   refine pure_ (i := 41) (N := some 155) (v := undef) (a' := ?_) #[true, true, true, true, true, true, true, true, true, true, true, true, true, true, true, true, true, true, true, true, true, true, true, true, true, true, true, true, true, true, true, true, true, true, true, true, true, true, true, true, true, true, false, false, false, false, false, false] rfl rfl (any_of HT_.out (by kernel_rfl)) (fun _ _ _ h => h) (Or.inr ⟨by rfl, rfl⟩) ?_ ?_
                   rotate_left
                   ·simp only [Act.put, List.setIfInBounds_toArray, List.set_cons_zero, List.set_cons_succ, i64_w, i32_w]
                    rfl
                   refine pure_ (i := 42) (N := some 156) (v := undef) (a' := ?_) #[true, true, true, true, true, true, true, true, true, true, true, true, true, true, true, true, true, true, true, true, true, true, true, true, true, true, true, true, true, true, true, true, true, true, true, true, true, true, true, true, true, true, true, false, false, false, false, false] rfl rfl (any_of HT_.out (by kernel_rfl)) (fun _ _ _ h => h) (Or.inr ⟨by rfl, rfl⟩) ?_ ?_
                   rotate_left
                   ·simp only [Act.put, List.setIfInBounds_toArray, List.set_cons_zero, List.set_cons_succ, i64_w, i32_w]
                    rfl
                   refine pure_ (i := 43) (N := some 157) (v := undef) (a' := ?_) #[true, true, true, true, true, true, true, true, true, true, true, true, true, true, true, true, true, true, true, true, true, true, true, true, true, true, true, true, true, true, true, true, true, true, true, true, true, true, true, true, true, true, true, true, false, false, false, false] rfl rfl (any_of HT_.out (by kernel_rfl)) (fun _ _ _ h => h) (Or.inr ⟨by rfl, rfl⟩) ?_ ?_
                   rotate_left
                   ·simp only [Act.put, List.setIfInBounds_toArray, List.set_cons_zero, List.set_cons_succ, i64_w, i32_w]
                    rfl
                   refine pure_ (i := 44) (N := some 158) (v := undef) (a' := ?_) #[true, true, true, true, true, true, true, true, true, true, true, true, true, true, true, true, true, true, true, true, true, true, true, true, true, true, true, true, true, true, true, true, true, true, true, true, true, true, true, true, true, true, true, true, true, false, false, false] rfl rfl (any_of HT_.out (by kernel_rfl)) (fun _ _ _ h => h) (Or.inr ⟨by rfl, rfl⟩) ?_ ?_
                   rotate_left
                   ·simp only [Act.put, List.setIfInBounds_toArray, List.set_cons_zero, List.set_cons_succ, i64_w, i32_w]
                    rfl
                   refine pure_ (i := 45) (N := some 159) (v := undef) (a' := ?_) #[true, true, true, true, true, true, true, true, true, true, true, true, true, true, true, true, true, true, true, true, true, true, true, true, true, true, true, true, true, true, true, true, true, true, true, true, true, true, true, true, true, true, true, true, true, true, false, false] rfl rfl (any_of HT_.out (by kernel_rfl)) (fun _ _ _ h => h) (Or.inr ⟨by rfl, rfl⟩) ?_ ?_
                   rotate_left
                   ·simp only [Act.put, List.setIfInBounds_toArray, List.set_cons_zero, List.set_cons_succ, i64_w, i32_w]
                    rfl
                   refine pure_ (i := 46) (N := some 160) (v := ?_) (a' := ?_) #[true, true, true, true, true, true, true, true, true, true, true, true, true, true, true, true, true, true, true, true, true, true, true, true, true, true, true, true, true, true, true, true, true, true, true, true, true, true, true, true, true, true, true, true, true, true, true, false] rfl rfl (any_of HT_.out (by kernel_rfl)) (fun _ _ _ h => h) (Or.inl ⟨by rfl, ?_⟩) ?_ ?_
                   rotate_left
                   ·intro w'
                    go_simp
                    with_reducible rfl
                   rotate_left
                   ·simp only [Act.put, List.setIfInBounds_toArray, List.set_cons_zero, List.set_cons_succ, i64_w, i32_w]
                    rfl
                   refine pure_ (i := 47) (N := some 161) (v := ?_) (a' := ?_) #[true, true, true, true, true, true, true, true, true, true, true, true, true, true, true, true, true, true, true, true, true, true, true, true, true, true, true, true, true, true, true, true, true, true, true, true, true, true, true, true, true, true, true, true, true, true, true, true] rfl rfl (any_of HT_.out (by kernel_rfl)) (fun _ _ _ h => h) (Or.inl ⟨by rfl, ?_⟩) ?_ ?_
                   rotate_left
                   ·intro w'
                    go_simp
                    with_reducible rfl
                   rotate_left
                   ·simp only [Act.put, List.setIfInBounds_toArray, List.set_cons_zero, List.set_cons_succ, i64_w, i32_w]
                    rfl
                   refine done_ (done_of HT_.out (by kernel_rfl)) ?_
                   try go_wp2
                   go_meet
                   case rel => exact ⟨_, (false), (by first | rfl | (simp; done) | (simp [*]; done)), H', ⟨by have := HJ19.out; have := HK2.out; first | omega | exact Nat.le_refl _⟩, ⟨by (with_reducible repeat (first | apply Kd.R_alloc | apply Kd.R_drewN | apply Kd.R_drew)); exact HO_10.out⟩, ⟨by (with_reducible repeat (first | apply Kd.R_alloc | apply Kd.R_drewN | apply Kd.R_drew)); exact HO_14.out⟩, ⟨by (with_reducible repeat (first | refine blk_drewN ?_ _ | refine blk_drew ?_ | refine blk_alloc ?_ _)); exact BK236.out⟩, ⟨by (with_reducible repeat (first | refine blk_drewN ?_ _ | refine blk_drew ?_ | refine blk_alloc ?_ _)); exact BK281.out⟩, ⟨by (with_reducible repeat (first | refine blk_drewN ?_ _ | refine blk_drew ?_ | refine blk_alloc ?_ _)); exact BK283.out⟩, ⟨by repeat (first | (with_reducible first | exact HB.out | apply below_alloc | apply pw_below_drewN | apply below_drew1 | refine below_set ?_ GE236.out | refine below_set ?_ GE281.out | refine below_set ?_ GE283.out) | exact HB.out)⟩⟩
                 ·rw [if_neg c81] at H
                  exact absurd H (by simp)
                ·rw [if_neg c80] at H
                 exact absurd H (by simp)
               ·rw [if_neg c79] at H
                exact absurd H (by simp)
             ·rw [if_neg c74] at H
              exact absurd H (by simp)
            case rest =>
             clear HC68
             obtain ⟨kq, x161_67, rfl, HA, HJ67, HO_10, HO_14, BK236, BK281, BK283, HB⟩ := hcut
             cases kq with
             | zero => exact absurd HA.out (by simp [tripartitelaw06_ChunkLists.j2])
             | succ kj67 =>
              have H := HA.out
              clear HA
              simp only [tripartitelaw06_ChunkLists.j2] at H
              by_cases c98 : x161_67 = true
              ·subst c98
               have H1 : (none) = some r := by rw [if_pos rfl] at H; exact H
               clear H
               have H := H1
               clear H1
               exact absurd H (by simp)
              ·replace c98 := Bool.eq_false_iff.mpr c98
               subst c98
               have H1 : ((chunk_Span_Len.f ((rd_T40 t254 x17_2).f1.f0) ((rd_T40 t254 x17_2).f1.f1)).bind fun t307 => ((chunk_Span_Len.f ((rd_T40 t254 x17_2).f2.f0) ((rd_T40 t254 x17_2).f2.f1)).bind fun t308 => ((chunk_Span_Len.f ((rd_T40 t254 x17_2).f3.f0) ((rd_T40 t254 x17_2).f3.f1)).bind fun t309 => (if (wrap64 ((wrap64 (t307 + t308)) + t309)) = 0 then (none) else (tripartitelaw06_ChunkLists.l0 kj67 t237 t238 t239 t254 t259 t268 (wrap64 (x17_2 + 1)) ((rd_T40 t254 x17_2).f1.f1) ((rd_T40 t254 x17_2).f2.f1) ((rd_T40 t254 x17_2).f3.f1)))))) = some r := by rw [if_neg (show ¬ (false = true) by decide)] at H; exact H
               clear H
               have H := H1
               clear H1
               replace H := Option.bind_eq_some_iff.mp H
               obtain ⟨t307, A990, H⟩ := H
               replace H : ((chunk_Span_Len.f ((rd_T40 t254 x17_2).f2.f0) ((rd_T40 t254 x17_2).f2.f1)).bind fun t308 => ((chunk_Span_Len.f ((rd_T40 t254 x17_2).f3.f0) ((rd_T40 t254 x17_2).f3.f1)).bind fun t309 => (if (wrap64 ((wrap64 (t307 + t308)) + t309)) = 0 then (none) else (tripartitelaw06_ChunkLists.l0 kj67 t237 t238 t239 t254 t259 t268 (wrap64 (x17_2 + 1)) ((rd_T40 t254 x17_2).f1.f1) ((rd_T40 t254 x17_2).f2.f1) ((rd_T40 t254 x17_2).f3.f1))))) = some r := H
               have A99 := Aside0.mk A990
               clear A990
               replace H := Option.bind_eq_some_iff.mp H
               obtain ⟨t308, A1000, H⟩ := H
               replace H : ((chunk_Span_Len.f ((rd_T40 t254 x17_2).f3.f0) ((rd_T40 t254 x17_2).f3.f1)).bind fun t309 => (if (wrap64 ((wrap64 (t307 + t308)) + t309)) = 0 then (none) else (tripartitelaw06_ChunkLists.l0 kj67 t237 t238 t239 t254 t259 t268 (wrap64 (x17_2 + 1)) ((rd_T40 t254 x17_2).f1.f1) ((rd_T40 t254 x17_2).f2.f1) ((rd_T40 t254 x17_2).f3.f1)))) = some r := H
               have A100 := Aside0.mk A1000
               clear A1000
               replace H := Option.bind_eq_some_iff.mp H
               obtain ⟨t309, A1010, H⟩ := H
               replace H : (if (wrap64 ((wrap64 (t307 + t308)) + t309)) = 0 then (none) else (tripartitelaw06_ChunkLists.l0 kj67 t237 t238 t239 t254 t259 t268 (wrap64 (x17_2 + 1)) ((rd_T40 t254 x17_2).f1.f1) ((rd_T40 t254 x17_2).f2.f1) ((rd_T40 t254 x17_2).f3.f1))) = some r := H
               have A101 := Aside0.mk A1010
               clear A1010
               by_cases c102 : (wrap64 ((wrap64 (t307 + t308)) + t309)) = 0
               ·rw [if_pos c102] at H
                exact absurd H (by simp)
               ·rw [if_neg c102] at H
                have c102b0 : ((wrap64 ((wrap64 (t307 + t308)) + t309)) == 0) = false := beq_eq_false_iff_ne.mpr c102
                have c102b1 : ((wrap64 ((wrap64 (t307 + t308)) + t309)) != 0) = true := bne_iff_ne.mpr c102
                have H' := Aside0.mk H
                clear H
                have hnb103 := NB283_236.out
                have hnc103 := NB236_283.out
                have hnb104 := NB283_281.out
                have hnc104 := NB281_283.out
                have hcz105_0 : wc.cell? ⟨gb283, 0, none⟩ = some (.bool ((rd_T40 t254 x17_2).f0)) := (blk_cell BK283.out 0).trans rfl
                have hcz105_1 : wc.cell? ⟨gb283, 1, none⟩ = some (.int .i64 ((rd_T40 t254 x17_2).f1.f0)) := (blk_cell BK283.out 1).trans rfl
                have hcz105_2 : wc.cell? ⟨gb283, 2, none⟩ = some (.int .i64 ((rd_T40 t254 x17_2).f1.f1)) := (blk_cell BK283.out 2).trans rfl
                have hcz105_3 : wc.cell? ⟨gb283, 3, none⟩ = some (.int .i64 ((rd_T40 t254 x17_2).f2.f0)) := (blk_cell BK283.out 3).trans rfl
                have hcz105_4 : wc.cell? ⟨gb283, 4, none⟩ = some (.int .i64 ((rd_T40 t254 x17_2).f2.f1)) := (blk_cell BK283.out 4).trans rfl
                have hcz105_5 : wc.cell? ⟨gb283, 5, none⟩ = some (.int .i64 ((rd_T40 t254 x17_2).f3.f0)) := (blk_cell BK283.out 5).trans rfl
                have hcz105_6 : wc.cell? ⟨gb283, 6, none⟩ = some (.int .i64 ((rd_T40 t254 x17_2).f3.f1)) := (blk_cell BK283.out 6).trans rfl
                have hfz105_0 := blk_frozen BK283.out 0
                have hfz105_1 := blk_frozen BK283.out 1
                have hfz105_2 := blk_frozen BK283.out 2
                have hfz105_3 := blk_frozen BK283.out 3
                have hfz105_4 := blk_frozen BK283.out 4
                have hfz105_5 := blk_frozen BK283.out 5
                have hfz105_6 := blk_frozen BK283.out 6
                have hnb106 := NB281_236.out
                have hnc106 := NB236_281.out
                have hcz107_0 : wc.cell? ⟨gb281, 0, none⟩ = some (.int .i64 x282000_2) := (blk_cell BK281.out 0).trans rfl
                have hcz107_1 : wc.cell? ⟨gb281, 1, none⟩ = some (.int .i64 x282001_2) := (blk_cell BK281.out 1).trans rfl
                have hcz107_2 : wc.cell? ⟨gb281, 2, none⟩ = some (.int .i64 x282002_2) := (blk_cell BK281.out 2).trans rfl
                have hfz107_0 := blk_frozen BK281.out 0
                have hfz107_1 := blk_frozen BK281.out 1
                have hfz107_2 := blk_frozen BK281.out 2
                try go_wp2
                have n0_ : Aside0 (Kd.R k40 40 (((wc.setCell ⟨gb281, 0, none⟩ (.int .i64 ((rd_T40 t254 x17_2).f1.f1))).setCell ⟨gb281, 1, none⟩ (.int .i64 ((rd_T40 t254 x17_2).f2.f1))).setCell ⟨gb281, 2, none⟩ (.int .i64 ((rd_T40 t254 x17_2).f3.f1))) w.heap.size (fun k_ => some k_ ≠ (v270 : Value).ownBlock ∧ k_ ≠ gb283) (.slice (some ad282) t254.length co69) t254) := ⟨by (with_reducible repeat (first | apply Kd.R_alloc | apply Kd.R_drewN | apply Kd.R_drew)); exact Kd.R_mono (Kd.R_far (p := ⟨gb281, 2, none⟩) (Kd.R_far (p := ⟨gb281, 1, none⟩) (Kd.R_far (p := ⟨gb281, 0, none⟩) (Kd.R_types HO_10.out BK281.out (by decide)) (fun _ hk => hk.2) (.int .i64 ((rd_T40 t254 x17_2).f1.f1))) (fun _ hk => hk.2) (.int .i64 ((rd_T40 t254 x17_2).f2.f1))) (fun _ hk => hk.2) (.int .i64 ((rd_T40 t254 x17_2).f3.f1))) (fun _ hk => ⟨hk.1.1, hk.1.2⟩)⟩
                have n1_ : Aside0 (Kd.R k40 40 (((wc.setCell ⟨gb281, 0, none⟩ (.int .i64 ((rd_T40 t254 x17_2).f1.f1))).setCell ⟨gb281, 1, none⟩ (.int .i64 ((rd_T40 t254 x17_2).f2.f1))).setCell ⟨gb281, 2, none⟩ (.int .i64 ((rd_T40 t254 x17_2).f3.f1))) w.heap.size (fun k_ => some k_ ≠ (.slice (some ad282) t254.length co69 : Value).ownBlock ∧ k_ ≠ gb283) v270 t268) := ⟨by (with_reducible repeat (first | apply Kd.R_alloc | apply Kd.R_drewN | apply Kd.R_drew)); exact Kd.R_mono (Kd.R_far (p := ⟨gb281, 2, none⟩) (Kd.R_far (p := ⟨gb281, 1, none⟩) (Kd.R_far (p := ⟨gb281, 0, none⟩) (Kd.R_types HO_14.out BK281.out (by decide)) (fun _ hk => hk.2) (.int .i64 ((rd_T40 t254 x17_2).f1.f1))) (fun _ hk => hk.2) (.int .i64 ((rd_T40 t254 x17_2).f2.f1))) (fun _ hk => hk.2) (.int .i64 ((rd_T40 t254 x17_2).f3.f1))) (fun _ hk => ⟨hk.1.1, hk.1.2⟩)⟩
                have n2_ : Aside0 ((((wc.setCell ⟨gb281, 0, none⟩ (.int .i64 ((rd_T40 t254 x17_2).f1.f1))).setCell ⟨gb281, 1, none⟩ (.int .i64 ((rd_T40 t254 x17_2).f2.f1))).setCell ⟨gb281, 2, none⟩ (.int .i64 ((rd_T40 t254 x17_2).f3.f1))).heap[gb236]? = some (.cells #[.int .i64 a0_0, .int .i64 a0_1, .int .i64 a0_2] 22 (0, 0))) := ⟨by (with_reducible repeat (first | refine blk_drewN ?_ _ | refine blk_drew ?_ | refine blk_alloc ?_ _)); refine blk_far ?_ NB236_281.out _; (with_reducible repeat (first | refine blk_drewN ?_ _ | refine blk_drew ?_ | refine blk_alloc ?_ _)); refine blk_far ?_ NB236_281.out _; (with_reducible repeat (first | refine blk_drewN ?_ _ | refine blk_drew ?_ | refine blk_alloc ?_ _)); refine blk_far ?_ NB236_281.out _; (with_reducible repeat (first | refine blk_drewN ?_ _ | refine blk_drew ?_ | refine blk_alloc ?_ _)); exact BK236.out⟩
                have n3_ : Aside0 ((((wc.setCell ⟨gb281, 0, none⟩ (.int .i64 ((rd_T40 t254 x17_2).f1.f1))).setCell ⟨gb281, 1, none⟩ (.int .i64 ((rd_T40 t254 x17_2).f2.f1))).setCell ⟨gb281, 2, none⟩ (.int .i64 ((rd_T40 t254 x17_2).f3.f1))).heap[gb281]? = some (.cells #[.int .i64 ((rd_T40 t254 x17_2).f1.f1), .int .i64 ((rd_T40 t254 x17_2).f2.f1), .int .i64 ((rd_T40 t254 x17_2).f3.f1)] 22 (0, 0))) := ⟨by (with_reducible repeat (first | refine blk_drewN ?_ _ | refine blk_drew ?_ | refine blk_alloc ?_ _)); refine blk_put (cs := #[.int .i64 ((rd_T40 t254 x17_2).f1.f1), .int .i64 ((rd_T40 t254 x17_2).f2.f1), .int .i64 x282002_2]) ?_ 2 _ rfl; (with_reducible repeat (first | refine blk_drewN ?_ _ | refine blk_drew ?_ | refine blk_alloc ?_ _)); refine blk_put (cs := #[.int .i64 ((rd_T40 t254 x17_2).f1.f1), .int .i64 x282001_2, .int .i64 x282002_2]) ?_ 1 _ rfl; (with_reducible repeat (first | refine blk_drewN ?_ _ | refine blk_drew ?_ | refine blk_alloc ?_ _)); refine blk_put (cs := #[.int .i64 x282000_2, .int .i64 x282001_2, .int .i64 x282002_2]) ?_ 0 _ rfl; (with_reducible repeat (first | refine blk_drewN ?_ _ | refine blk_drew ?_ | refine blk_alloc ?_ _)); exact BK281.out⟩
                have n4_ : Aside0 ((((wc.setCell ⟨gb281, 0, none⟩ (.int .i64 ((rd_T40 t254 x17_2).f1.f1))).setCell ⟨gb281, 1, none⟩ (.int .i64 ((rd_T40 t254 x17_2).f2.f1))).setCell ⟨gb281, 2, none⟩ (.int .i64 ((rd_T40 t254 x17_2).f3.f1))).heap[gb283]? = some (.cells #[.bool ((rd_T40 t254 x17_2).f0), .int .i64 ((rd_T40 t254 x17_2).f1.f0), .int .i64 ((rd_T40 t254 x17_2).f1.f1), .int .i64 ((rd_T40 t254 x17_2).f2.f0), .int .i64 ((rd_T40 t254 x17_2).f2.f1), .int .i64 ((rd_T40 t254 x17_2).f3.f0), .int .i64 ((rd_T40 t254 x17_2).f3.f1)] 40 (0, 0))) := ⟨by (with_reducible repeat (first | refine blk_drewN ?_ _ | refine blk_drew ?_ | refine blk_alloc ?_ _)); refine blk_far ?_ NB283_281.out _; (with_reducible repeat (first | refine blk_drewN ?_ _ | refine blk_drew ?_ | refine blk_alloc ?_ _)); refine blk_far ?_ NB283_281.out _; (with_reducible repeat (first | refine blk_drewN ?_ _ | refine blk_drew ?_ | refine blk_alloc ?_ _)); refine blk_far ?_ NB283_281.out _; (with_reducible repeat (first | refine blk_drewN ?_ _ | refine blk_drew ?_ | refine blk_alloc ?_ _)); exact BK283.out⟩
                have n5_ : Aside0 (Below w.heap.size w (((wc.setCell ⟨gb281, 0, none⟩ (.int .i64 ((rd_T40 t254 x17_2).f1.f1))).setCell ⟨gb281, 1, none⟩ (.int .i64 ((rd_T40 t254 x17_2).f2.f1))).setCell ⟨gb281, 2, none⟩ (.int .i64 ((rd_T40 t254 x17_2).f3.f1)))) := ⟨by repeat (first | (with_reducible first | exact HB.out | apply below_alloc | apply pw_below_drewN | apply below_drew1 | refine below_set ?_ GE236.out | refine below_set ?_ GE281.out | refine below_set ?_ GE283.out) | exact HB.out)⟩
                generalize (((wc.setCell ⟨gb281, 0, none⟩ (.int .i64 ((rd_T40 t254 x17_2).f1.f1))).setCell ⟨gb281, 1, none⟩ (.int .i64 ((rd_T40 t254 x17_2).f2.f1))).setCell ⟨gb281, 2, none⟩ (.int .i64 ((rd_T40 t254 x17_2).f3.f1))) = w108 at n0_ n1_ n2_ n3_ n4_ n5_ ⊢
                have HO_10 := n0_
                have HO_14 := n1_
                have BK236 := n2_
                have BK281 := n3_
                have BK283 := n4_
                have HB := n5_
                clear n0_ n1_ n2_ n3_ n4_ n5_
                have n0_ := Aside0.mk (Kd.R_drew HO_10.out)
                have n1_ := Aside0.mk (Kd.R_drew HO_14.out)
                have n2_ := Aside0.mk (blk_drew BK236.out)
                have n3_ := Aside0.mk (blk_drew BK281.out)
                have n4_ := Aside0.mk (blk_drew BK283.out)
                have n5_ := Aside0.mk (below_drew1 HB.out)
                clear HO_10
                clear HO_14
                clear BK236
                clear BK281
                clear BK283
                clear HB
                have HO_10 := n0_
                have HO_14 := n1_
                have BK236 := n2_
                have BK281 := n3_
                have BK283 := n4_
                have HB := n5_
                clear n0_ n1_ n2_ n3_ n4_ n5_
                refine start_ (n := 12) (S := fun w' => w'.cell? ⟨gb283, 0, none⟩ = some (.bool ((rd_T40 t254 x17_2).f0)) ∧ w'.cell? ⟨gb283, 1, none⟩ = some (.int .i64 ((rd_T40 t254 x17_2).f1.f0)) ∧ w'.cell? ⟨gb283, 2, none⟩ = some (.int .i64 ((rd_T40 t254 x17_2).f1.f1)) ∧ w'.cell? ⟨gb283, 3, none⟩ = some (.int .i64 ((rd_T40 t254 x17_2).f2.f0)) ∧ w'.cell? ⟨gb283, 4, none⟩ = some (.int .i64 ((rd_T40 t254 x17_2).f2.f1)) ∧ w'.cell? ⟨gb283, 5, none⟩ = some (.int .i64 ((rd_T40 t254 x17_2).f3.f0)) ∧ w'.cell? ⟨gb283, 6, none⟩ = some (.int .i64 ((rd_T40 t254 x17_2).f3.f1))) (ds := []) #[false, false, false, false, false, false, false, false, false, false, false, false] (by kernel_rfl) rfl rfl ⟨(blk_cell BK283.out 0).trans rfl, (blk_cell BK283.out 1).trans rfl, (blk_cell BK283.out 2).trans rfl, (blk_cell BK283.out 3).trans rfl, (blk_cell BK283.out 4).trans rfl, (blk_cell BK283.out 5).trans rfl, (blk_cell BK283.out 6).trans rfl⟩ (fun hHeld => ?_); refine with_tabW tripartitelaw06_ChunkLists.tab16 tripartitelaw06_ChunkLists.bits16 (fun HT_ HW_ => ?_)
                generalize w108.drew = w109 at HO_10 HO_14 BK236 BK281 BK283 HB hHeld ⊢
                refine pure_ (i := 0) (N := some 172) (v := ?_) (a' := ?_) #[true, false, false, false, false, false, false, false, false, false, false, false] rfl rfl (any_of HT_.out (by kernel_rfl)) (fun _ _ _ h => h) (Or.inl ⟨by rfl, ?_⟩) ?_ ?_
                rotate_left
                ·intro w'
                 go_simp
                 with_reducible rfl
                rotate_left
                ·simp only [Act.put, List.setIfInBounds_toArray, List.set_cons_zero, List.set_cons_succ, i64_w, i32_w]
                 rfl
                refine pure_ (i := 3) (N := some 175) (v := ?_) (a' := ?_) #[true, false, false, true, false, false, false, false, false, false, false, false] rfl rfl (any_of HT_.out (by kernel_rfl)) (fun _ _ _ h => h) (Or.inl ⟨by rfl, ?_⟩) ?_ ?_
                rotate_left
                ·intro w'
                 go_simp
                 with_reducible rfl
                rotate_left
                ·simp only [Act.put, List.setIfInBounds_toArray, List.set_cons_zero, List.set_cons_succ, i64_w, i32_w]
                 rfl
                refine pure_ (i := 7) (N := some 179) (v := ?_) (a' := ?_) #[true, false, false, true, false, false, false, true, false, false, false, false] rfl rfl (any_of HT_.out (by kernel_rfl)) (fun _ _ _ h => h) (Or.inl ⟨by rfl, ?_⟩) ?_ ?_
                rotate_left
                ·intro w'
                 go_simp
                 with_reducible rfl
                rotate_left
                ·simp only [Act.put, List.setIfInBounds_toArray, List.set_cons_zero, List.set_cons_succ, i64_w, i32_w]
                 rfl
                refine take_ (i := 1) (N := some 173) (v := ?_) (a' := ?_) #[true, true, false, true, false, false, false, true, false, false, false, false] rfl rfl (take_ofW HT_.out HW_.out (by kernel_rfl)) (fun _ _ _ h => h) (Or.inl ⟨by rfl, ?_⟩) hHeld ?_ ?_
                rotate_left
                ·rintro w' ⟨s0, s1, s2, s3, s4, s5, s6⟩
                 go_simp
                 with_reducible rfl
                rotate_left
                ·simp only [Act.put, List.setIfInBounds_toArray, List.set_cons_zero, List.set_cons_succ, i64_w, i32_w]
                 rfl
                refine take_ (i := 4) (N := some 176) (v := ?_) (a' := ?_) #[true, true, false, true, true, false, false, true, false, false, false, false] rfl rfl (take_ofW HT_.out HW_.out (by kernel_rfl)) (fun _ _ _ h => h) (Or.inl ⟨by rfl, ?_⟩) hHeld ?_ ?_
                rotate_left
                ·rintro w' ⟨s0, s1, s2, s3, s4, s5, s6⟩
                 go_simp
                 with_reducible rfl
                rotate_left
                ·simp only [Act.put, List.setIfInBounds_toArray, List.set_cons_zero, List.set_cons_succ, i64_w, i32_w]
                 rfl
                refine take_ (i := 8) (N := some 180) (v := ?_) (a' := ?_) #[true, true, false, true, true, false, false, true, true, false, false, false] rfl rfl (take_ofW HT_.out HW_.out (by kernel_rfl)) (fun _ _ _ h => h) (Or.inl ⟨by rfl, ?_⟩) hHeld ?_ ?_
                rotate_left
                ·rintro w' ⟨s0, s1, s2, s3, s4, s5, s6⟩
                 go_simp
                 with_reducible rfl
                rotate_left
                ·simp only [Act.put, List.setIfInBounds_toArray, List.set_cons_zero, List.set_cons_succ, i64_w, i32_w]
                 rfl
                refine one_ (i := 2) (N := some 174) #[true, true, true, true, true, false, false, true, true, false, false, false] rfl rfl (one_of HT_.out (by kernel_rfl)) (by decide) (fun K hK => ?_)
                refine goes_ Try.func14 (by kernel_rfl) rfl #[.agg #[.int .i64 ((rd_T40 t254 x17_2).f1.f0), .int .i64 ((rd_T40 t254 x17_2).f1.f1)]] (by rfl) rfl rfl (by (try simp only [List.map_toArray, List.map_cons, List.map_nil]); first | done | rfl | (simp only [List.length_drop, List.length_take]; rfl)) ?_
                with_reducible refine (chunk_Span_Len.calls ((rd_T40 t254 x17_2).f1.f0) ((rd_T40 t254 x17_2).f1.f1) t307 _ A99.out).mono ?_
                rintro e w110 ⟨rfl, hb⟩
                refine ⟨_, rfl, ?_⟩
                have n0_ := Aside0.mk (Kd.R_below (by (with_reducible repeat (first | apply Kd.R_alloc | apply Kd.R_drewN | apply Kd.R_drew)); exact HO_10.out) hb)
                have n1_ := Aside0.mk (Kd.R_below (by (with_reducible repeat (first | apply Kd.R_alloc | apply Kd.R_drewN | apply Kd.R_drew)); exact HO_14.out) hb)
                have n2_ := Aside0.mk (blk_below (g := gb236) (o := .cells #[.int .i64 a0_0, .int .i64 a0_1, .int .i64 a0_2] 22 (0, 0)) (by (with_reducible repeat (first | refine blk_drewN ?_ _ | refine blk_drew ?_ | refine blk_alloc ?_ _)); exact BK236.out) hb)
                have n3_ := Aside0.mk (blk_below (g := gb281) (o := .cells #[.int .i64 ((rd_T40 t254 x17_2).f1.f1), .int .i64 ((rd_T40 t254 x17_2).f2.f1), .int .i64 ((rd_T40 t254 x17_2).f3.f1)] 22 (0, 0)) (by (with_reducible repeat (first | refine blk_drewN ?_ _ | refine blk_drew ?_ | refine blk_alloc ?_ _)); exact BK281.out) hb)
                have n4_ := Aside0.mk (blk_below (g := gb283) (o := .cells #[.bool ((rd_T40 t254 x17_2).f0), .int .i64 ((rd_T40 t254 x17_2).f1.f0), .int .i64 ((rd_T40 t254 x17_2).f1.f1), .int .i64 ((rd_T40 t254 x17_2).f2.f0), .int .i64 ((rd_T40 t254 x17_2).f2.f1), .int .i64 ((rd_T40 t254 x17_2).f3.f0), .int .i64 ((rd_T40 t254 x17_2).f3.f1)] 40 (0, 0)) (by (with_reducible repeat (first | refine blk_drewN ?_ _ | refine blk_drew ?_ | refine blk_alloc ?_ _)); exact BK283.out) hb)
                have n5_ := Aside0.mk (below_step (by repeat (first | (with_reducible first | exact HB.out | apply below_alloc | apply pw_below_drewN | apply below_drew1 | refine below_set ?_ GE236.out | refine below_set ?_ GE281.out | refine below_set ?_ GE283.out) | exact HB.out)) hb)
                clear HO_10
                clear HO_14
                clear BK236
                clear BK281
                clear BK283
                clear HB
                have HO_10 := n0_
                have HO_14 := n1_
                have BK236 := n2_
                have BK281 := n3_
                have BK283 := n4_
                have HB := n5_
                clear n0_ n1_ n2_ n3_ n4_ n5_
                refine hK.out _ _ ⟨(blk_cell BK283.out 0).trans rfl, (blk_cell BK283.out 1).trans rfl, (blk_cell BK283.out 2).trans rfl, (blk_cell BK283.out 3).trans rfl, (blk_cell BK283.out 4).trans rfl, (blk_cell BK283.out 5).trans rfl, (blk_cell BK283.out 6).trans rfl⟩ (fun hHeld => ?_)
                clear hK K
                refine norm_ (a' := ?_) ?_ ?_
                rotate_left
                ·show Act.put _ (some 174) _ = _
                 simp only [Act.put, List.setIfInBounds_toArray, List.set_cons_zero, List.set_cons_succ, i64_w, i32_w]
                 rfl
                refine one_ (i := 5) (N := some 177) #[true, true, true, true, true, true, false, true, true, false, false, false] rfl rfl (one_of HT_.out (by kernel_rfl)) (by decide) (fun K hK => ?_)
                refine goes_ Try.func14 (by kernel_rfl) rfl #[.agg #[.int .i64 ((rd_T40 t254 x17_2).f2.f0), .int .i64 ((rd_T40 t254 x17_2).f2.f1)]] (by rfl) rfl rfl (by (try simp only [List.map_toArray, List.map_cons, List.map_nil]); first | done | rfl | (simp only [List.length_drop, List.length_take]; rfl)) ?_
                with_reducible refine (chunk_Span_Len.calls ((rd_T40 t254 x17_2).f2.f0) ((rd_T40 t254 x17_2).f2.f1) t308 _ A100.out).mono ?_
                rintro e w111 ⟨rfl, hb⟩
                refine ⟨_, rfl, ?_⟩
                have n0_ := Aside0.mk (Kd.R_below (by (with_reducible repeat (first | apply Kd.R_alloc | apply Kd.R_drewN | apply Kd.R_drew)); exact HO_10.out) hb)
                have n1_ := Aside0.mk (Kd.R_below (by (with_reducible repeat (first | apply Kd.R_alloc | apply Kd.R_drewN | apply Kd.R_drew)); exact HO_14.out) hb)
                have n2_ := Aside0.mk (blk_below (g := gb236) (o := .cells #[.int .i64 a0_0, .int .i64 a0_1, .int .i64 a0_2] 22 (0, 0)) (by (with_reducible repeat (first | refine blk_drewN ?_ _ | refine blk_drew ?_ | refine blk_alloc ?_ _)); exact BK236.out) hb)
                have n3_ := Aside0.mk (blk_below (g := gb281) (o := .cells #[.int .i64 ((rd_T40 t254 x17_2).f1.f1), .int .i64 ((rd_T40 t254 x17_2).f2.f1), .int .i64 ((rd_T40 t254 x17_2).f3.f1)] 22 (0, 0)) (by (with_reducible repeat (first | refine blk_drewN ?_ _ | refine blk_drew ?_ | refine blk_alloc ?_ _)); exact BK281.out) hb)
                have n4_ := Aside0.mk (blk_below (g := gb283) (o := .cells #[.bool ((rd_T40 t254 x17_2).f0), .int .i64 ((rd_T40 t254 x17_2).f1.f0), .int .i64 ((rd_T40 t254 x17_2).f1.f1), .int .i64 ((rd_T40 t254 x17_2).f2.f0), .int .i64 ((rd_T40 t254 x17_2).f2.f1), .int .i64 ((rd_T40 t254 x17_2).f3.f0), .int .i64 ((rd_T40 t254 x17_2).f3.f1)] 40 (0, 0)) (by (with_reducible repeat (first | refine blk_drewN ?_ _ | refine blk_drew ?_ | refine blk_alloc ?_ _)); exact BK283.out) hb)
                have n5_ := Aside0.mk (below_step (by repeat (first | (with_reducible first | exact HB.out | apply below_alloc | apply pw_below_drewN | apply below_drew1 | refine below_set ?_ GE236.out | refine below_set ?_ GE281.out | refine below_set ?_ GE283.out) | exact HB.out)) hb)
                clear HO_10
                clear HO_14
                clear BK236
                clear BK281
                clear BK283
                clear HB
                have HO_10 := n0_
                have HO_14 := n1_
                have BK236 := n2_
                have BK281 := n3_
                have BK283 := n4_
                have HB := n5_
                clear n0_ n1_ n2_ n3_ n4_ n5_
                refine hK.out _ _ ⟨(blk_cell BK283.out 0).trans rfl, (blk_cell BK283.out 1).trans rfl, (blk_cell BK283.out 2).trans rfl, (blk_cell BK283.out 3).trans rfl, (blk_cell BK283.out 4).trans rfl, (blk_cell BK283.out 5).trans rfl, (blk_cell BK283.out 6).trans rfl⟩ (fun hHeld => ?_)
                clear hK K
                refine norm_ (a' := ?_) ?_ ?_
                rotate_left
                ·show Act.put _ (some 177) _ = _
                 simp only [Act.put, List.setIfInBounds_toArray, List.set_cons_zero, List.set_cons_succ, i64_w, i32_w]
                 rfl
                refine pure_ (i := 6) (N := some 178) (v := ?_) (a' := ?_) #[true, true, true, true, true, true, true, true, true, false, false, false] rfl rfl (any_of HT_.out (by kernel_rfl)) (fun _ _ _ h => h) (Or.inl ⟨by rfl, ?_⟩) ?_ ?_
                rotate_left
                ·intro w'
                 go_simp
                 with_reducible rfl
                rotate_left
                ·simp only [Act.put, List.setIfInBounds_toArray, List.set_cons_zero, List.set_cons_succ, i64_w, i32_w]
                 rfl
                refine one_ (i := 9) (N := some 181) #[true, true, true, true, true, true, true, true, true, true, false, false] rfl rfl (one_of HT_.out (by kernel_rfl)) (by decide) (fun K hK => ?_)
                refine goes_ Try.func14 (by kernel_rfl) rfl #[.agg #[.int .i64 ((rd_T40 t254 x17_2).f3.f0), .int .i64 ((rd_T40 t254 x17_2).f3.f1)]] (by rfl) rfl rfl (by (try simp only [List.map_toArray, List.map_cons, List.map_nil]); first | done | rfl | (simp only [List.length_drop, List.length_take]; rfl)) ?_
                with_reducible refine (chunk_Span_Len.calls ((rd_T40 t254 x17_2).f3.f0) ((rd_T40 t254 x17_2).f3.f1) t309 _ A101.out).mono ?_
                rintro e w112 ⟨rfl, hb⟩
                refine ⟨_, rfl, ?_⟩
                have n0_ := Aside0.mk (Kd.R_below (by (with_reducible repeat (first | apply Kd.R_alloc | apply Kd.R_drewN | apply Kd.R_drew)); exact HO_10.out) hb)
                have n1_ := Aside0.mk (Kd.R_below (by (with_reducible repeat (first | apply Kd.R_alloc | apply Kd.R_drewN | apply Kd.R_drew)); exact HO_14.out) hb)
                have n2_ := Aside0.mk (blk_below (g := gb236) (o := .cells #[.int .i64 a0_0, .int .i64 a0_1, .int .i64 a0_2] 22 (0, 0)) (by (with_reducible repeat (first | refine blk_drewN ?_ _ | refine blk_drew ?_ | refine blk_alloc ?_ _)); exact BK236.out) hb)
                have n3_ := Aside0.mk (blk_below (g := gb281) (o := .cells #[.int .i64 ((rd_T40 t254 x17_2).f1.f1), .int .i64 ((rd_T40 t254 x17_2).f2.f1), .int .i64 ((rd_T40 t254 x17_2).f3.f1)] 22 (0, 0)) (by (with_reducible repeat (first | refine blk_drewN ?_ _ | refine blk_drew ?_ | refine blk_alloc ?_ _)); exact BK281.out) hb)
                have n4_ := Aside0.mk (blk_below (g := gb283) (o := .cells #[.bool ((rd_T40 t254 x17_2).f0), .int .i64 ((rd_T40 t254 x17_2).f1.f0), .int .i64 ((rd_T40 t254 x17_2).f1.f1), .int .i64 ((rd_T40 t254 x17_2).f2.f0), .int .i64 ((rd_T40 t254 x17_2).f2.f1), .int .i64 ((rd_T40 t254 x17_2).f3.f0), .int .i64 ((rd_T40 t254 x17_2).f3.f1)] 40 (0, 0)) (by (with_reducible repeat (first | refine blk_drewN ?_ _ | refine blk_drew ?_ | refine blk_alloc ?_ _)); exact BK283.out) hb)
                have n5_ := Aside0.mk (below_step (by repeat (first | (with_reducible first | exact HB.out | apply below_alloc | apply pw_below_drewN | apply below_drew1 | refine below_set ?_ GE236.out | refine below_set ?_ GE281.out | refine below_set ?_ GE283.out) | exact HB.out)) hb)
                clear HO_10
                clear HO_14
                clear BK236
                clear BK281
                clear BK283
                clear HB
                have HO_10 := n0_
                have HO_14 := n1_
                have BK236 := n2_
                have BK281 := n3_
                have BK283 := n4_
                have HB := n5_
                clear n0_ n1_ n2_ n3_ n4_ n5_
                refine hK.out _ _ ⟨(blk_cell BK283.out 0).trans rfl, (blk_cell BK283.out 1).trans rfl, (blk_cell BK283.out 2).trans rfl, (blk_cell BK283.out 3).trans rfl, (blk_cell BK283.out 4).trans rfl, (blk_cell BK283.out 5).trans rfl, (blk_cell BK283.out 6).trans rfl⟩ (fun hHeld => ?_)
                clear hK K
                refine norm_ (a' := ?_) ?_ ?_
                rotate_left
                ·show Act.put _ (some 181) _ = _
                 simp only [Act.put, List.setIfInBounds_toArray, List.set_cons_zero, List.set_cons_succ, i64_w, i32_w]
                 rfl
                refine pure_ (i := 10) (N := some 182) (v := ?_) (a' := ?_) #[true, true, true, true, true, true, true, true, true, true, true, false] rfl rfl (any_of HT_.out (by kernel_rfl)) (fun _ _ _ h => h) (Or.inl ⟨by rfl, ?_⟩) ?_ ?_
                rotate_left
                ·intro w'
                 go_simp
                 with_reducible rfl
                rotate_left
                ·simp only [Act.put, List.setIfInBounds_toArray, List.set_cons_zero, List.set_cons_succ, i64_w, i32_w]
                 rfl
                refine pure_ (i := 11) (N := some 183) (v := ?_) (a' := ?_) #[true, true, true, true, true, true, true, true, true, true, true, true] rfl rfl (any_of HT_.out (by kernel_rfl)) (fun _ _ _ h => h) (Or.inl ⟨by rfl, ?_⟩) ?_ ?_
                rotate_left
                ·intro w'
                 go_simp
                 with_reducible rfl
                rotate_left
                ·simp only [Act.put, List.setIfInBounds_toArray, List.set_cons_zero, List.set_cons_succ, i64_w, i32_w]
                 rfl
                refine done_ (done_of HT_.out (by kernel_rfl)) ?_
                try go_wp2
                go_roundg kj67
                case measure => have := HJ19.out; have := HK2.out; have := HJ67.out; omega
                case rel => exact ⟨(wrap64 (x17_2 + 1)), (((rd_T40 t254 x17_2).f1.f1)), (((rd_T40 t254 x17_2).f2.f1)), (((rd_T40 t254 x17_2).f3.f1)), (by first | rfl | (simp; done) | (simp [*]; done)), H', ⟨by have := HJ19.out; have := HK2.out; have := HJ67.out; omega⟩, ⟨by (with_reducible repeat (first | apply Kd.R_alloc | apply Kd.R_drewN | apply Kd.R_drew)); exact Kd.R_mono HO_10.out (fun _ hk => hk.1)⟩, ⟨by (with_reducible repeat (first | apply Kd.R_alloc | apply Kd.R_drewN | apply Kd.R_drew)); exact Kd.R_mono HO_14.out (fun _ hk => hk.1)⟩, ⟨by (with_reducible repeat (first | refine blk_drewN ?_ _ | refine blk_drew ?_ | refine blk_alloc ?_ _)); exact BK236.out⟩, ⟨by (with_reducible repeat (first | refine blk_drewN ?_ _ | refine blk_drew ?_ | refine blk_alloc ?_ _)); exact BK281.out⟩, ⟨by repeat (first | (with_reducible first | exact HB.out | apply below_alloc | apply pw_below_drewN | apply below_drew1 | refine below_set ?_ GE236.out | refine below_set ?_ GE281.out | refine below_set ?_ GE283.out) | exact HB.out)⟩⟩
           ·rw [if_neg c67] at H
            exact absurd H (by simp)
          ·rw [if_neg c66] at H
           have c66b0 : decide (x17_2 < (t254.length : Int)) = false := decide_eq_false c66
           clear c66
           by_cases c113 : t259 = true
           ·subst c113
            have H1 : (some (x282000_2 == t237 && (x282001_2 == t238 && (x282002_2 == t239)))) = some r := by rw [if_pos rfl] at H; exact H
            clear H
            have H := H1
            clear H1
            obtain rfl := Option.some.inj H
            obtain ⟨Ao114, co114, eo114⟩ := Kd.R_slice HO_10.out
            subst eo114
            have hnb115 := NB281_236.out
            have hnc115 := NB236_281.out
            have hcz116_0 : wr.cell? ⟨gb281, 0, none⟩ = some (.int .i64 x282000_2) := (blk_cell BK281.out 0).trans rfl
            have hcz116_1 : wr.cell? ⟨gb281, 1, none⟩ = some (.int .i64 x282001_2) := (blk_cell BK281.out 1).trans rfl
            have hcz116_2 : wr.cell? ⟨gb281, 2, none⟩ = some (.int .i64 x282002_2) := (blk_cell BK281.out 2).trans rfl
            have hfz116_0 := blk_frozen BK281.out 0
            have hfz116_1 := blk_frozen BK281.out 1
            have hfz116_2 := blk_frozen BK281.out 2
            go_wp2
            go_ret
            exact ⟨by first | rfl | (simp [errW_none, errW_some] <;> rfl) | (simp only [← hji7, ← hji10]; first | rfl | (simp [errW_none, errW_some] <;> rfl)) | (simp [*, errW_none, errW_some] <;> rfl), by repeat (first | (with_reducible first | exact HB.out | apply below_alloc | apply pw_below_drewN | apply below_drew1 | refine below_set ?_ GE236.out | refine below_set ?_ GE281.out) | exact HB.out)⟩
           ·replace c113 := Bool.eq_false_iff.mpr c113
            subst c113
            have H1 : (some true) = some r := by rw [if_neg (show ¬ (false = true) by decide)] at H; exact H
            clear H
            have H := H1
            clear H1
            obtain rfl := Option.some.inj H
            obtain ⟨Ao117, co117, eo117⟩ := Kd.R_slice HO_10.out
            subst eo117
            go_wp2
            go_ret
            exact ⟨by first | rfl | (simp [errW_none, errW_some] <;> rfl) | (simp only [← hji7, ← hji10]; first | rfl | (simp [errW_none, errW_some] <;> rfl)) | (simp [*, errW_none, errW_some] <;> rfl), by repeat (first | (with_reducible first | exact HB.out | apply below_alloc | apply pw_below_drewN | apply below_drew1 | refine below_set ?_ GE236.out | refine below_set ?_ GE281.out) | exact HB.out)⟩
    ·rw [if_neg c12] at H
     exact absurd H (by simp)
   ·rw [if_neg c11] at H
    exact absurd H (by simp)
  ·rw [if_neg c9] at H
   exact absurd H (by simp)
 ·rw [if_neg c8] at H
  exact absurd H (by simp)

end Go.Proofs.Ytkliaoikljjeaaa.X

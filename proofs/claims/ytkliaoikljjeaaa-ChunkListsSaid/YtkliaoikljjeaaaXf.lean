-- Made by this session's programs (wip/prepatch.py, xprint.sh, assemble.py): the kit's printer over an input that this session patched, cut and joined with contracts proved by hand.
import Derived.Test.YtkliaoikljjeaaaXa
import Derived.Test.YtkliaoikljjeaaaXq
namespace Go.Proofs.Ytkliaoikljjeaaa.X
open Go.RowKit Go.Proofs.YtkliaoikljjeaaaW.PrintWords Go.Proofs.YtkliaoikljjeaaaW.PrintLast Go.Proofs.YtkliaoikljjeaaaW.PrintMore
attribute [local go_sem] max2_int min2_int max_two min_two max_three min_three max_four min_four   -- for this text's walks alone
set_option linter.unusedVariables false
set_option linter.unusedSimpArgs false

/-! ### tripartiteref06_Of: function 8 -/
mutual
def tripartiteref06_Of.j0 : Nat → Int → Int → Int → List (S65) → List (S65) → Bool → Option ((List (S43)) × Bool)
 | 0, _, _, _, _, _, _ => none
 | k + 1, x0, x1, x2, x3, x4, x42 => if x42 = true then (some (([] : List (S43)), false)) else (tripartiteref06_Of.l0 k x0 x1 x2 x3 x4 ([] : List (S43)) 0 0 0)
def tripartiteref06_Of.l0 : Nat → Int → Int → Int → List (S65) → List (S65) → List (S43) → Int → Int → Int → Option ((List (S43)) × Bool)
 | 0, _, _, _, _, _, _, _, _, _ => none
 | k + 1, x0, x1, x2, x3, x4, x12, x13, x14, x15 => if x13 < x0 then (tripartiteref06_Of.j2 k x0 x1 x2 x3 x4 x12 x13 x14 x15 true) else (if x14 < x1 then (tripartiteref06_Of.j2 k x0 x1 x2 x3 x4 x12 x13 x14 x15 true) else (tripartiteref06_Of.j2 k x0 x1 x2 x3 x4 x12 x13 x14 x15 (decide (x15 < x2))))
def tripartiteref06_Of.j2 : Nat → Int → Int → Int → List (S65) → List (S65) → List (S43) → Int → Int → Int → Bool → Option ((List (S43)) × Bool)
 | 0, _, _, _, _, _, _, _, _, _, _ => none
 | k + 1, x0, x1, x2, x3, x4, x12, x13, x14, x15, x55 => if x55 = true then (tripartiteref06_Of.l1 k x0 x1 x2 x3 x4 x12 x13 x14 x15 0) else (some (x12, true))
def tripartiteref06_Of.j4 : Nat → Int → Int → Int → List (S65) → List (S65) → List (S43) → Int → Int → Int → Int → Option ((List (S43)) × Bool)
 | 0, _, _, _, _, _, _, _, _, _, _ => none
 | k + 1, x0, x1, x2, x3, x4, x12, x13, x14, x15, x16 => if x16 = 0 then (tripartiteref06_Of.l2 k x0 x1 x2 x3 x4 x12 x14 x15 x13 (decide (x16 > 0)) x13 (wrap64 (x13 + x16)) x14 (wrap64 (x14 + x16)) x15 (wrap64 (x15 + x16))) else (if x12.length < 2513169434916 then (tripartiteref06_Of.l0 k x0 x1 x2 x3 x4 (x12 ++ [(⟨decide (x16 > 0), (⟨x13, wrap64 (x13 + x16)⟩ : S41), (⟨x14, wrap64 (x14 + x16)⟩ : S41), (⟨x15, wrap64 (x15 + x16)⟩ : S41)⟩ : S43)]) (wrap64 (x13 + x16)) (wrap64 (x14 + x16)) (wrap64 (x15 + x16))) else (none))
def tripartiteref06_Of.j6 : Nat → Int → Int → Int → List (S65) → List (S65) → List (S43) → Int → Bool → Int → Int → Int → Int → Int → Int → Option ((List (S43)) × Bool)
 | 0, _, _, _, _, _, _, _, _, _, _, _, _, _, _ => none
 | k + 1, x0, x1, x2, x3, x4, x12, x18, x143000, x143001, x143002, x143003, x143004, x143005, x143006 => if x18 < x0 then ((tripartiteref06_at.f k x3 x18).bind fun t145 => ((tripartiteref06_at.f k x4 x18).bind fun t146 => (if x12.length < 2513169434916 then (tripartiteref06_Of.l0 k x0 x1 x2 x3 x4 (x12 ++ [(⟨x143000, (⟨x143001, x18⟩ : S41), (⟨x143003, t145⟩ : S41), (⟨x143005, t146⟩ : S41)⟩ : S43)]) x18 t145 t146) else (none)))) else (if x12.length < 2513169434916 then (tripartiteref06_Of.l0 k x0 x1 x2 x3 x4 (x12 ++ [(⟨x143000, (⟨x143001, x0⟩ : S41), (⟨x143003, x1⟩ : S41), (⟨x143005, x2⟩ : S41)⟩ : S43)]) x0 x1 x2) else (none))
def tripartiteref06_Of.l2 : Nat → Int → Int → Int → List (S65) → List (S65) → List (S43) → Int → Int → Int → Bool → Int → Int → Int → Int → Int → Int → Option ((List (S43)) × Bool)
 | 0, _, _, _, _, _, _, _, _, _, _, _, _, _, _, _, _ => none
 | k + 1, x0, x1, x2, x3, x4, x12, x14, x15, x18, x143000, x143001, x143002, x143003, x143004, x143005, x143006 => if x18 < x0 then ((tripartiteref06_at.f k x3 x18).bind fun t143 => (if t143 < x14 then (tripartiteref06_Of.l2 k x0 x1 x2 x3 x4 x12 x14 x15 (wrap64 (x18 + 1)) x143000 x143001 x143002 x143003 x143004 x143005 x143006) else ((tripartiteref06_at.f k x4 x18).bind fun t144 => (if t144 < x15 then (tripartiteref06_Of.l2 k x0 x1 x2 x3 x4 x12 x14 x15 (wrap64 (x18 + 1)) x143000 x143001 x143002 x143003 x143004 x143005 x143006) else (tripartiteref06_Of.j6 k x0 x1 x2 x3 x4 x12 x18 x143000 x143001 x143002 x143003 x143004 x143005 x143006))))) else (tripartiteref06_Of.j6 k x0 x1 x2 x3 x4 x12 x18 x143000 x143001 x143002 x143003 x143004 x143005 x143006)
def tripartiteref06_Of.l1 : Nat → Int → Int → Int → List (S65) → List (S65) → List (S43) → Int → Int → Int → Int → Option ((List (S43)) × Bool)
 | 0, _, _, _, _, _, _, _, _, _, _ => none
 | k + 1, x0, x1, x2, x3, x4, x12, x13, x14, x15, x16 => if (wrap64 (x13 + x16)) < x0 then ((tripartiteref06_at.f k x3 (wrap64 (x13 + x16))).bind fun t140 => (if t140 = (wrap64 (x14 + x16)) then ((tripartiteref06_at.f k x4 (wrap64 (x13 + x16))).bind fun t141 => (if t141 = (wrap64 (x15 + x16)) then (tripartiteref06_Of.l1 k x0 x1 x2 x3 x4 x12 x13 x14 x15 (wrap64 (x16 + 1))) else (tripartiteref06_Of.j4 k x0 x1 x2 x3 x4 x12 x13 x14 x15 x16))) else (tripartiteref06_Of.j4 k x0 x1 x2 x3 x4 x12 x13 x14 x15 x16))) else (tripartiteref06_Of.j4 k x0 x1 x2 x3 x4 x12 x13 x14 x15 x16)
end
def tripartiteref06_Of.f (k : Nat) (a0 : Int) (a1 : Int) (a2 : Int) (l3 : List (S65)) (l4 : List (S65)) : Option ((List (S43)) × Bool) := if a0 < 0 then (tripartiteref06_Of.j0 k a0 a1 a2 l3 l4 true) else (if a1 < 0 then (tripartiteref06_Of.j0 k a0 a1 a2 l3 l4 true) else (if a2 < 0 then (tripartiteref06_Of.j0 k a0 a1 a2 l3 l4 true) else ((tripartiteref06_rises.f k a0 a1 l3).bind fun t138 => (if t138 = true then ((tripartiteref06_rises.f k a0 a2 l4).bind fun t139 => (tripartiteref06_Of.j0 k a0 a1 a2 l3 l4 (!t139))) else (tripartiteref06_Of.j0 k a0 a1 a2 l3 l4 true)))))
theorem tripartiteref06_Of.mono_l : ∀ k, (∀ y0 y1 y2 y3 y4 y5, LeO (tripartiteref06_Of.j0 k y0 y1 y2 y3 y4 y5) (tripartiteref06_Of.j0 (k + 1) y0 y1 y2 y3 y4 y5)) ∧ (∀ y0 y1 y2 y3 y4 y5 y6 y7 y8, LeO (tripartiteref06_Of.l0 k y0 y1 y2 y3 y4 y5 y6 y7 y8) (tripartiteref06_Of.l0 (k + 1) y0 y1 y2 y3 y4 y5 y6 y7 y8)) ∧ (∀ y0 y1 y2 y3 y4 y5 y6 y7 y8 y9, LeO (tripartiteref06_Of.j2 k y0 y1 y2 y3 y4 y5 y6 y7 y8 y9) (tripartiteref06_Of.j2 (k + 1) y0 y1 y2 y3 y4 y5 y6 y7 y8 y9)) ∧ (∀ y0 y1 y2 y3 y4 y5 y6 y7 y8 y9, LeO (tripartiteref06_Of.j4 k y0 y1 y2 y3 y4 y5 y6 y7 y8 y9) (tripartiteref06_Of.j4 (k + 1) y0 y1 y2 y3 y4 y5 y6 y7 y8 y9)) ∧ (∀ y0 y1 y2 y3 y4 y5 y6 y7 y8 y9 y10 y11 y12 y13, LeO (tripartiteref06_Of.j6 k y0 y1 y2 y3 y4 y5 y6 y7 y8 y9 y10 y11 y12 y13) (tripartiteref06_Of.j6 (k + 1) y0 y1 y2 y3 y4 y5 y6 y7 y8 y9 y10 y11 y12 y13)) ∧ (∀ y0 y1 y2 y3 y4 y5 y6 y7 y8 y9 y10 y11 y12 y13 y14 y15, LeO (tripartiteref06_Of.l2 k y0 y1 y2 y3 y4 y5 y6 y7 y8 y9 y10 y11 y12 y13 y14 y15) (tripartiteref06_Of.l2 (k + 1) y0 y1 y2 y3 y4 y5 y6 y7 y8 y9 y10 y11 y12 y13 y14 y15)) ∧ (∀ y0 y1 y2 y3 y4 y5 y6 y7 y8 y9, LeO (tripartiteref06_Of.l1 k y0 y1 y2 y3 y4 y5 y6 y7 y8 y9) (tripartiteref06_Of.l1 (k + 1) y0 y1 y2 y3 y4 y5 y6 y7 y8 y9))
 | 0 => ⟨fun _ _ _ _ _ _ r h => by simp [tripartiteref06_Of.j0] at h, fun _ _ _ _ _ _ _ _ _ r h => by simp [tripartiteref06_Of.l0] at h, fun _ _ _ _ _ _ _ _ _ _ r h => by simp [tripartiteref06_Of.j2] at h, fun _ _ _ _ _ _ _ _ _ _ r h => by simp [tripartiteref06_Of.j4] at h, fun _ _ _ _ _ _ _ _ _ _ _ _ _ _ r h => by simp [tripartiteref06_Of.j6] at h, fun _ _ _ _ _ _ _ _ _ _ _ _ _ _ _ _ r h => by simp [tripartiteref06_Of.l2] at h, fun _ _ _ _ _ _ _ _ _ _ r h => by simp [tripartiteref06_Of.l1] at h⟩
 | k + 1 => by
  obtain ⟨ih0, ih1, ih2, ih3, ih4, ih5, ih6⟩ := tripartiteref06_Of.mono_l k
  refine ⟨?_, ?_, ?_, ?_, ?_, ?_, ?_⟩
  ·intro y0 y1 y2 y3 y4 y5
   unfold tripartiteref06_Of.j0
   repeat' first
   | (with_reducible exact ih0 _ _ _ _ _ _)
   | (with_reducible exact ih1 _ _ _ _ _ _ _ _ _)
   | (with_reducible exact ih2 _ _ _ _ _ _ _ _ _ _)
   | (with_reducible exact ih3 _ _ _ _ _ _ _ _ _ _)
   | (with_reducible exact ih4 _ _ _ _ _ _ _ _ _ _ _ _ _ _)
   | (with_reducible exact ih5 _ _ _ _ _ _ _ _ _ _ _ _ _ _ _ _)
   | (with_reducible exact ih6 _ _ _ _ _ _ _ _ _ _)
   | (with_reducible exact tripartiteref06_at.mono _ _ _)
   | (with_reducible exact tripartiteref06_rises.mono _ _ _ _)
   | (with_reducible exact LeO.refl _)
   | (with_reducible exact LeO.none _)
   | (with_reducible refine LeO.ite ?_ ?_)
   | (with_reducible refine LeO.bind ?_ (fun _ => ?_))
   | exact ih0 _ _ _ _ _ _
   | exact ih1 _ _ _ _ _ _ _ _ _
   | exact ih2 _ _ _ _ _ _ _ _ _ _
   | exact ih3 _ _ _ _ _ _ _ _ _ _
   | exact ih4 _ _ _ _ _ _ _ _ _ _ _ _ _ _
   | exact ih5 _ _ _ _ _ _ _ _ _ _ _ _ _ _ _ _
   | exact ih6 _ _ _ _ _ _ _ _ _ _
   | exact tripartiteref06_at.mono _ _ _
   | exact tripartiteref06_rises.mono _ _ _ _
   | exact LeO.none _
   | refine LeO.ite ?_ ?_
   | refine LeO.bind ?_ (fun _ => ?_)
  ·intro y0 y1 y2 y3 y4 y5 y6 y7 y8
   unfold tripartiteref06_Of.l0
   repeat' first
   | (with_reducible exact ih0 _ _ _ _ _ _)
   | (with_reducible exact ih1 _ _ _ _ _ _ _ _ _)
   | (with_reducible exact ih2 _ _ _ _ _ _ _ _ _ _)
   | (with_reducible exact ih3 _ _ _ _ _ _ _ _ _ _)
   | (with_reducible exact ih4 _ _ _ _ _ _ _ _ _ _ _ _ _ _)
   | (with_reducible exact ih5 _ _ _ _ _ _ _ _ _ _ _ _ _ _ _ _)
   | (with_reducible exact ih6 _ _ _ _ _ _ _ _ _ _)
   | (with_reducible exact tripartiteref06_at.mono _ _ _)
   | (with_reducible exact tripartiteref06_rises.mono _ _ _ _)
   | (with_reducible exact LeO.refl _)
   | (with_reducible exact LeO.none _)
   | (with_reducible refine LeO.ite ?_ ?_)
   | (with_reducible refine LeO.bind ?_ (fun _ => ?_))
   | exact ih0 _ _ _ _ _ _
   | exact ih1 _ _ _ _ _ _ _ _ _
   | exact ih2 _ _ _ _ _ _ _ _ _ _
   | exact ih3 _ _ _ _ _ _ _ _ _ _
   | exact ih4 _ _ _ _ _ _ _ _ _ _ _ _ _ _
   | exact ih5 _ _ _ _ _ _ _ _ _ _ _ _ _ _ _ _
   | exact ih6 _ _ _ _ _ _ _ _ _ _
   | exact tripartiteref06_at.mono _ _ _
   | exact tripartiteref06_rises.mono _ _ _ _
   | exact LeO.none _
   | refine LeO.ite ?_ ?_
   | refine LeO.bind ?_ (fun _ => ?_)
  ·intro y0 y1 y2 y3 y4 y5 y6 y7 y8 y9
   unfold tripartiteref06_Of.j2
   repeat' first
   | (with_reducible exact ih0 _ _ _ _ _ _)
   | (with_reducible exact ih1 _ _ _ _ _ _ _ _ _)
   | (with_reducible exact ih2 _ _ _ _ _ _ _ _ _ _)
   | (with_reducible exact ih3 _ _ _ _ _ _ _ _ _ _)
   | (with_reducible exact ih4 _ _ _ _ _ _ _ _ _ _ _ _ _ _)
   | (with_reducible exact ih5 _ _ _ _ _ _ _ _ _ _ _ _ _ _ _ _)
   | (with_reducible exact ih6 _ _ _ _ _ _ _ _ _ _)
   | (with_reducible exact tripartiteref06_at.mono _ _ _)
   | (with_reducible exact tripartiteref06_rises.mono _ _ _ _)
   | (with_reducible exact LeO.refl _)
   | (with_reducible exact LeO.none _)
   | (with_reducible refine LeO.ite ?_ ?_)
   | (with_reducible refine LeO.bind ?_ (fun _ => ?_))
   | exact ih0 _ _ _ _ _ _
   | exact ih1 _ _ _ _ _ _ _ _ _
   | exact ih2 _ _ _ _ _ _ _ _ _ _
   | exact ih3 _ _ _ _ _ _ _ _ _ _
   | exact ih4 _ _ _ _ _ _ _ _ _ _ _ _ _ _
   | exact ih5 _ _ _ _ _ _ _ _ _ _ _ _ _ _ _ _
   | exact ih6 _ _ _ _ _ _ _ _ _ _
   | exact tripartiteref06_at.mono _ _ _
   | exact tripartiteref06_rises.mono _ _ _ _
   | exact LeO.none _
   | refine LeO.ite ?_ ?_
   | refine LeO.bind ?_ (fun _ => ?_)
  ·intro y0 y1 y2 y3 y4 y5 y6 y7 y8 y9
   unfold tripartiteref06_Of.j4
   repeat' first
   | (with_reducible exact ih0 _ _ _ _ _ _)
   | (with_reducible exact ih1 _ _ _ _ _ _ _ _ _)
   | (with_reducible exact ih2 _ _ _ _ _ _ _ _ _ _)
   | (with_reducible exact ih3 _ _ _ _ _ _ _ _ _ _)
   | (with_reducible exact ih4 _ _ _ _ _ _ _ _ _ _ _ _ _ _)
   | (with_reducible exact ih5 _ _ _ _ _ _ _ _ _ _ _ _ _ _ _ _)
   | (with_reducible exact ih6 _ _ _ _ _ _ _ _ _ _)
   | (with_reducible exact tripartiteref06_at.mono _ _ _)
   | (with_reducible exact tripartiteref06_rises.mono _ _ _ _)
   | (with_reducible exact LeO.refl _)
   | (with_reducible exact LeO.none _)
   | (with_reducible refine LeO.ite ?_ ?_)
   | (with_reducible refine LeO.bind ?_ (fun _ => ?_))
   | exact ih0 _ _ _ _ _ _
   | exact ih1 _ _ _ _ _ _ _ _ _
   | exact ih2 _ _ _ _ _ _ _ _ _ _
   | exact ih3 _ _ _ _ _ _ _ _ _ _
   | exact ih4 _ _ _ _ _ _ _ _ _ _ _ _ _ _
   | exact ih5 _ _ _ _ _ _ _ _ _ _ _ _ _ _ _ _
   | exact ih6 _ _ _ _ _ _ _ _ _ _
   | exact tripartiteref06_at.mono _ _ _
   | exact tripartiteref06_rises.mono _ _ _ _
   | exact LeO.none _
   | refine LeO.ite ?_ ?_
   | refine LeO.bind ?_ (fun _ => ?_)
  ·intro y0 y1 y2 y3 y4 y5 y6 y7 y8 y9 y10 y11 y12 y13
   unfold tripartiteref06_Of.j6
   repeat' first
   | (with_reducible exact ih0 _ _ _ _ _ _)
   | (with_reducible exact ih1 _ _ _ _ _ _ _ _ _)
   | (with_reducible exact ih2 _ _ _ _ _ _ _ _ _ _)
   | (with_reducible exact ih3 _ _ _ _ _ _ _ _ _ _)
   | (with_reducible exact ih4 _ _ _ _ _ _ _ _ _ _ _ _ _ _)
   | (with_reducible exact ih5 _ _ _ _ _ _ _ _ _ _ _ _ _ _ _ _)
   | (with_reducible exact ih6 _ _ _ _ _ _ _ _ _ _)
   | (with_reducible exact tripartiteref06_at.mono _ _ _)
   | (with_reducible exact tripartiteref06_rises.mono _ _ _ _)
   | (with_reducible exact LeO.refl _)
   | (with_reducible exact LeO.none _)
   | (with_reducible refine LeO.ite ?_ ?_)
   | (with_reducible refine LeO.bind ?_ (fun _ => ?_))
   | exact ih0 _ _ _ _ _ _
   | exact ih1 _ _ _ _ _ _ _ _ _
   | exact ih2 _ _ _ _ _ _ _ _ _ _
   | exact ih3 _ _ _ _ _ _ _ _ _ _
   | exact ih4 _ _ _ _ _ _ _ _ _ _ _ _ _ _
   | exact ih5 _ _ _ _ _ _ _ _ _ _ _ _ _ _ _ _
   | exact ih6 _ _ _ _ _ _ _ _ _ _
   | exact tripartiteref06_at.mono _ _ _
   | exact tripartiteref06_rises.mono _ _ _ _
   | exact LeO.none _
   | refine LeO.ite ?_ ?_
   | refine LeO.bind ?_ (fun _ => ?_)
  ·intro y0 y1 y2 y3 y4 y5 y6 y7 y8 y9 y10 y11 y12 y13 y14 y15
   unfold tripartiteref06_Of.l2
   repeat' first
   | (with_reducible exact ih0 _ _ _ _ _ _)
   | (with_reducible exact ih1 _ _ _ _ _ _ _ _ _)
   | (with_reducible exact ih2 _ _ _ _ _ _ _ _ _ _)
   | (with_reducible exact ih3 _ _ _ _ _ _ _ _ _ _)
   | (with_reducible exact ih4 _ _ _ _ _ _ _ _ _ _ _ _ _ _)
   | (with_reducible exact ih5 _ _ _ _ _ _ _ _ _ _ _ _ _ _ _ _)
   | (with_reducible exact ih6 _ _ _ _ _ _ _ _ _ _)
   | (with_reducible exact tripartiteref06_at.mono _ _ _)
   | (with_reducible exact tripartiteref06_rises.mono _ _ _ _)
   | (with_reducible exact LeO.refl _)
   | (with_reducible exact LeO.none _)
   | (with_reducible refine LeO.ite ?_ ?_)
   | (with_reducible refine LeO.bind ?_ (fun _ => ?_))
   | exact ih0 _ _ _ _ _ _
   | exact ih1 _ _ _ _ _ _ _ _ _
   | exact ih2 _ _ _ _ _ _ _ _ _ _
   | exact ih3 _ _ _ _ _ _ _ _ _ _
   | exact ih4 _ _ _ _ _ _ _ _ _ _ _ _ _ _
   | exact ih5 _ _ _ _ _ _ _ _ _ _ _ _ _ _ _ _
   | exact ih6 _ _ _ _ _ _ _ _ _ _
   | exact tripartiteref06_at.mono _ _ _
   | exact tripartiteref06_rises.mono _ _ _ _
   | exact LeO.none _
   | refine LeO.ite ?_ ?_
   | refine LeO.bind ?_ (fun _ => ?_)
  ·intro y0 y1 y2 y3 y4 y5 y6 y7 y8 y9
   unfold tripartiteref06_Of.l1
   repeat' first
   | (with_reducible exact ih0 _ _ _ _ _ _)
   | (with_reducible exact ih1 _ _ _ _ _ _ _ _ _)
   | (with_reducible exact ih2 _ _ _ _ _ _ _ _ _ _)
   | (with_reducible exact ih3 _ _ _ _ _ _ _ _ _ _)
   | (with_reducible exact ih4 _ _ _ _ _ _ _ _ _ _ _ _ _ _)
   | (with_reducible exact ih5 _ _ _ _ _ _ _ _ _ _ _ _ _ _ _ _)
   | (with_reducible exact ih6 _ _ _ _ _ _ _ _ _ _)
   | (with_reducible exact tripartiteref06_at.mono _ _ _)
   | (with_reducible exact tripartiteref06_rises.mono _ _ _ _)
   | (with_reducible exact LeO.refl _)
   | (with_reducible exact LeO.none _)
   | (with_reducible refine LeO.ite ?_ ?_)
   | (with_reducible refine LeO.bind ?_ (fun _ => ?_))
   | exact ih0 _ _ _ _ _ _
   | exact ih1 _ _ _ _ _ _ _ _ _
   | exact ih2 _ _ _ _ _ _ _ _ _ _
   | exact ih3 _ _ _ _ _ _ _ _ _ _
   | exact ih4 _ _ _ _ _ _ _ _ _ _ _ _ _ _
   | exact ih5 _ _ _ _ _ _ _ _ _ _ _ _ _ _ _ _
   | exact ih6 _ _ _ _ _ _ _ _ _ _
   | exact tripartiteref06_at.mono _ _ _
   | exact tripartiteref06_rises.mono _ _ _ _
   | exact LeO.none _
   | refine LeO.ite ?_ ?_
   | refine LeO.bind ?_ (fun _ => ?_)
theorem tripartiteref06_Of.mono : ∀ a0 a1 a2 a3 a4 k, LeO (tripartiteref06_Of.f k a0 a1 a2 a3 a4) (tripartiteref06_Of.f (k + 1) a0 a1 a2 a3 a4) := by
 intro a0 a1 a2 a3 a4 k
 obtain ⟨ih0, ih1, ih2, ih3, ih4, ih5, ih6⟩ := tripartiteref06_Of.mono_l k
 unfold tripartiteref06_Of.f
 repeat' first
   | (with_reducible exact ih0 _ _ _ _ _ _)
   | (with_reducible exact ih1 _ _ _ _ _ _ _ _ _)
   | (with_reducible exact ih2 _ _ _ _ _ _ _ _ _ _)
   | (with_reducible exact ih3 _ _ _ _ _ _ _ _ _ _)
   | (with_reducible exact ih4 _ _ _ _ _ _ _ _ _ _ _ _ _ _)
   | (with_reducible exact ih5 _ _ _ _ _ _ _ _ _ _ _ _ _ _ _ _)
   | (with_reducible exact ih6 _ _ _ _ _ _ _ _ _ _)
   | (with_reducible exact tripartiteref06_at.mono _ _ _)
   | (with_reducible exact tripartiteref06_rises.mono _ _ _ _)
   | (with_reducible exact LeO.refl _)
   | (with_reducible exact LeO.none _)
   | (with_reducible refine LeO.ite ?_ ?_)
   | (with_reducible refine LeO.bind ?_ (fun _ => ?_))
   | exact ih0 _ _ _ _ _ _
   | exact ih1 _ _ _ _ _ _ _ _ _
   | exact ih2 _ _ _ _ _ _ _ _ _ _
   | exact ih3 _ _ _ _ _ _ _ _ _ _
   | exact ih4 _ _ _ _ _ _ _ _ _ _ _ _ _ _
   | exact ih5 _ _ _ _ _ _ _ _ _ _ _ _ _ _ _ _
   | exact ih6 _ _ _ _ _ _ _ _ _ _
   | exact tripartiteref06_at.mono _ _ _
   | exact tripartiteref06_rises.mono _ _ _ _
   | exact LeO.none _
   | refine LeO.ite ?_ ?_
   | refine LeO.bind ?_ (fun _ => ?_)
set_option maxHeartbeats 16000000 in
set_option maxRecDepth 100000 in
theorem tripartiteref06_Of.calls (k : Nat) (a0 : Int) (a1 : Int) (a2 : Int) (A3 : Option Addr) (c3 : Nat) (l3 : List (S65)) (A4 : Option Addr) (c4 : Nat) (l4 : List (S65)) (r1 : List (S43)) (r2 : Bool) (w : World) (hr3 : Kd.C k65 w A3 l3.length l3) (hc3 : l3.length ≤ c3) (hr4 : Kd.C k65 w A4 l4.length l4) (hc4 : l4.length ≤ c4) (h : tripartiteref06_Of.f k a0 a1 a2 l3 l4 = some (r1, r2)) :
  Calls Try.prog 8 #[.int .i64 a0, .int .i64 a1, .int .i64 a2, .slice A3 l3.length c3, .slice A4 l4.length c4] w fun e w' => ∃ v0_ : Value, e = .returned (.tuple #[v0_, .bool r2]) ∧ Kd.R k43 43 w' w.heap.size (fun _ => True) v0_ r1 ∧ Below w.heap.size w w' := by
 have hu41 := Try.underlying41
 have hu43 := Try.underlying43
 have HR3 := Aside0.mk hr3
 have HC3 := Aside0.mk hc3
 clear hr3 hc3
 have HR4 := Aside0.mk hr4
 have HC4 := Aside0.mk hc4
 clear hr4 hc4
 have HB := Aside0.mk (Below.refl w.heap.size w)
 have H : (if a0 < 0 then (tripartiteref06_Of.j0 k a0 a1 a2 l3 l4 true) else (if a1 < 0 then (tripartiteref06_Of.j0 k a0 a1 a2 l3 l4 true) else (if a2 < 0 then (tripartiteref06_Of.j0 k a0 a1 a2 l3 l4 true) else ((tripartiteref06_rises.f k a0 a1 l3).bind fun t138 => (if t138 = true then ((tripartiteref06_rises.f k a0 a2 l4).bind fun t139 => (tripartiteref06_Of.j0 k a0 a1 a2 l3 l4 (!t139))) else (tripartiteref06_Of.j0 k a0 a1 a2 l3 l4 true)))))) = some (r1, r2) := h
 clear h
 have HC6 := Aside0.mk H
 clear H
 go_enter Try.func8, Try.ntmps8
 go_upto_region 1 with (fail)
 repeat (go_quiet (fail); go_upto_region 1 with (fail))
 go_cut [42] (fun v42 wc => ∃ (kq : Nat) (x42_5 : Bool), v42 = .bool x42_5 ∧ Aside0 (tripartiteref06_Of.j0 kq a0 a1 a2 l3 l4 x42_5 = some (r1, r2)) ∧ Aside0 (kq ≤ k) ∧ Aside0 (Below w.heap.size w wc))
 case first =>
  have H := HC6.out
  clear HC6
  by_cases c7 : a0 < 0
  ·rw [if_pos c7] at H
   have c7b0 : decide (a0 < 0) = true := decide_eq_true c7
   clear c7
   (first | rw [c7b0] | (simp only [i64_w, i32_w]; rw [c7b0]) | skip)
   have H' := Aside0.mk H
   clear H
   go_wp2
   repeat (go_quiet (fail); try go_wp2)
   go_meet
   case rel => exact ⟨_, (true), (by first | rfl | (simp; done) | (simp [*]; done)), H', ⟨by first | omega | exact Nat.le_refl _⟩, ⟨by repeat (first | (with_reducible first | exact HB.out | apply below_alloc | apply pw_below_drewN | apply below_drew1) | exact HB.out)⟩⟩
  ·rw [if_neg c7] at H
   have c7b0 : decide (a0 < 0) = false := decide_eq_false c7
   clear c7
   (first | rw [c7b0] | (simp only [i64_w, i32_w]; rw [c7b0]) | skip)
   by_cases c8 : a1 < 0
   ·rw [if_pos c8] at H
    have c8b0 : decide (a1 < 0) = true := decide_eq_true c8
    clear c8
    have H' := Aside0.mk H
    clear H
    go_wp2
    repeat (go_quiet (fail); try go_wp2)
    go_meet
    case rel => exact ⟨_, (true), (by first | rfl | (simp; done) | (simp [*]; done)), H', ⟨by first | omega | exact Nat.le_refl _⟩, ⟨by repeat (first | (with_reducible first | exact HB.out | apply below_alloc | apply pw_below_drewN | apply below_drew1) | exact HB.out)⟩⟩
   ·rw [if_neg c8] at H
    have c8b0 : decide (a1 < 0) = false := decide_eq_false c8
    clear c8
    by_cases c9 : a2 < 0
    ·rw [if_pos c9] at H
     have c9b0 : decide (a2 < 0) = true := decide_eq_true c9
     clear c9
     have H' := Aside0.mk H
     clear H
     go_wp2
     repeat (go_quiet (fail); try go_wp2)
     go_meet
     case rel => exact ⟨_, (true), (by first | rfl | (simp; done) | (simp [*]; done)), H', ⟨by first | omega | exact Nat.le_refl _⟩, ⟨by repeat (first | (with_reducible first | exact HB.out | apply below_alloc | apply pw_below_drewN | apply below_drew1) | exact HB.out)⟩⟩
    ·rw [if_neg c9] at H
     have c9b0 : decide (a2 < 0) = false := decide_eq_false c9
     clear c9
     replace H := Option.bind_eq_some_iff.mp H
     obtain ⟨t138, A100, H⟩ := H
     replace H : (if t138 = true then ((tripartiteref06_rises.f k a0 a2 l4).bind fun t139 => (tripartiteref06_Of.j0 k a0 a1 a2 l3 l4 (!t139))) else (tripartiteref06_Of.j0 k a0 a1 a2 l3 l4 true)) = some (r1, r2) := H
     have A10 := Aside0.mk A100
     clear A100
     by_cases c11 : t138 = true
     ·subst c11
      have H1 : ((tripartiteref06_rises.f k a0 a2 l4).bind fun t139 => (tripartiteref06_Of.j0 k a0 a1 a2 l3 l4 (!t139))) = some (r1, r2) := by rw [if_pos rfl] at H; exact H
      clear H
      have H := H1
      clear H1
      replace H := Option.bind_eq_some_iff.mp H
      obtain ⟨t139, A120, H⟩ := H
      replace H : (tripartiteref06_Of.j0 k a0 a1 a2 l3 l4 (!t139)) = some (r1, r2) := H
      have A12 := Aside0.mk A120
      clear A120
      have H' := Aside0.mk H
      clear H
      go_wp2_with (first | (go_at_call 24; (with_reducible refine (tripartiteref06_rises.calls k a0 a1 _ _ l3 true _ ?side1 ?side2 A10.out).mono ?_); (case side1 => repeat (first | exact (Kd.C_below HR3.out HB.out) | (with_reducible refine Kd.C_alloc ?_ _) | (with_reducible refine Kd.C_drewN ?_ _) | (with_reducible refine Kd.C_drew ?_))); (case side2 => exact HC3.out); rintro e w13 ⟨rfl, hb⟩; have n0_ := Aside0.mk (below_step (by repeat (first | (with_reducible first | exact HB.out | apply below_alloc | apply pw_below_drewN | apply below_drew1) | exact HB.out)) hb); clear HB; have HB := n0_; clear n0_; (try clear hb); (try clear hb2); (try clear hk); (try clear hi)) | (go_at_call 24; (with_reducible refine (tripartiteref06_rises.calls k a0 a2 _ _ l4 t139 _ ?side1 ?side2 A12.out).mono ?_); (case side1 => repeat (first | exact (Kd.C_below HR4.out HB.out) | (with_reducible refine Kd.C_alloc ?_ _) | (with_reducible refine Kd.C_drewN ?_ _) | (with_reducible refine Kd.C_drew ?_))); (case side2 => exact HC4.out); rintro e w14 ⟨rfl, hb⟩; have n0_ := Aside0.mk (below_step (by repeat (first | (with_reducible first | exact HB.out | apply below_alloc | apply pw_below_drewN | apply below_drew1) | exact HB.out)) hb); clear HB; have HB := n0_; clear n0_; (try clear hb); (try clear hb2); (try clear hk); (try clear hi)))
      repeat (go_quiet (first | (go_at_call 24; (with_reducible refine (tripartiteref06_rises.calls k a0 a1 _ _ l3 true _ ?side1 ?side2 A10.out).mono ?_); (case side1 => repeat (first | exact (Kd.C_below HR3.out HB.out) | (with_reducible refine Kd.C_alloc ?_ _) | (with_reducible refine Kd.C_drewN ?_ _) | (with_reducible refine Kd.C_drew ?_))); (case side2 => exact HC3.out); rintro e w13 ⟨rfl, hb⟩; have n0_ := Aside0.mk (below_step (by repeat (first | (with_reducible first | exact HB.out | apply below_alloc | apply pw_below_drewN | apply below_drew1) | exact HB.out)) hb); clear HB; have HB := n0_; clear n0_; (try clear hb); (try clear hb2); (try clear hk); (try clear hi)) | (go_at_call 24; (with_reducible refine (tripartiteref06_rises.calls k a0 a2 _ _ l4 t139 _ ?side1 ?side2 A12.out).mono ?_); (case side1 => repeat (first | exact (Kd.C_below HR4.out HB.out) | (with_reducible refine Kd.C_alloc ?_ _) | (with_reducible refine Kd.C_drewN ?_ _) | (with_reducible refine Kd.C_drew ?_))); (case side2 => exact HC4.out); rintro e w14 ⟨rfl, hb⟩; have n0_ := Aside0.mk (below_step (by repeat (first | (with_reducible first | exact HB.out | apply below_alloc | apply pw_below_drewN | apply below_drew1) | exact HB.out)) hb); clear HB; have HB := n0_; clear n0_; (try clear hb); (try clear hb2); (try clear hk); (try clear hi))); try go_wp2_with (first | (go_at_call 24; (with_reducible refine (tripartiteref06_rises.calls k a0 a1 _ _ l3 true _ ?side1 ?side2 A10.out).mono ?_); (case side1 => repeat (first | exact (Kd.C_below HR3.out HB.out) | (with_reducible refine Kd.C_alloc ?_ _) | (with_reducible refine Kd.C_drewN ?_ _) | (with_reducible refine Kd.C_drew ?_))); (case side2 => exact HC3.out); rintro e w13 ⟨rfl, hb⟩; have n0_ := Aside0.mk (below_step (by repeat (first | (with_reducible first | exact HB.out | apply below_alloc | apply pw_below_drewN | apply below_drew1) | exact HB.out)) hb); clear HB; have HB := n0_; clear n0_; (try clear hb); (try clear hb2); (try clear hk); (try clear hi)) | (go_at_call 24; (with_reducible refine (tripartiteref06_rises.calls k a0 a2 _ _ l4 t139 _ ?side1 ?side2 A12.out).mono ?_); (case side1 => repeat (first | exact (Kd.C_below HR4.out HB.out) | (with_reducible refine Kd.C_alloc ?_ _) | (with_reducible refine Kd.C_drewN ?_ _) | (with_reducible refine Kd.C_drew ?_))); (case side2 => exact HC4.out); rintro e w14 ⟨rfl, hb⟩; have n0_ := Aside0.mk (below_step (by repeat (first | (with_reducible first | exact HB.out | apply below_alloc | apply pw_below_drewN | apply below_drew1) | exact HB.out)) hb); clear HB; have HB := n0_; clear n0_; (try clear hb); (try clear hb2); (try clear hk); (try clear hi))))
      go_meet
      case rel => exact ⟨_, (!t139), (by first | rfl | (simp; done) | (simp [*]; done)), H', ⟨by first | omega | exact Nat.le_refl _⟩, ⟨by repeat (first | (with_reducible first | exact HB.out | apply below_alloc | apply pw_below_drewN | apply below_drew1) | exact HB.out)⟩⟩
     ·replace c11 := Bool.eq_false_iff.mpr c11
      subst c11
      have H1 : (tripartiteref06_Of.j0 k a0 a1 a2 l3 l4 true) = some (r1, r2) := by rw [if_neg (show ¬ (false = true) by decide)] at H; exact H
      clear H
      have H := H1
      clear H1
      have H' := Aside0.mk H
      clear H
      go_wp2_with (first | (go_at_call 24; (with_reducible refine (tripartiteref06_rises.calls k a0 a1 _ _ l3 false _ ?side1 ?side2 A10.out).mono ?_); (case side1 => repeat (first | exact (Kd.C_below HR3.out HB.out) | (with_reducible refine Kd.C_alloc ?_ _) | (with_reducible refine Kd.C_drewN ?_ _) | (with_reducible refine Kd.C_drew ?_))); (case side2 => exact HC3.out); rintro e w15 ⟨rfl, hb⟩; have n0_ := Aside0.mk (below_step (by repeat (first | (with_reducible first | exact HB.out | apply below_alloc | apply pw_below_drewN | apply below_drew1) | exact HB.out)) hb); clear HB; have HB := n0_; clear n0_; (try clear hb); (try clear hb2); (try clear hk); (try clear hi)))
      repeat (go_quiet (first | (go_at_call 24; (with_reducible refine (tripartiteref06_rises.calls k a0 a1 _ _ l3 false _ ?side1 ?side2 A10.out).mono ?_); (case side1 => repeat (first | exact (Kd.C_below HR3.out HB.out) | (with_reducible refine Kd.C_alloc ?_ _) | (with_reducible refine Kd.C_drewN ?_ _) | (with_reducible refine Kd.C_drew ?_))); (case side2 => exact HC3.out); rintro e w15 ⟨rfl, hb⟩; have n0_ := Aside0.mk (below_step (by repeat (first | (with_reducible first | exact HB.out | apply below_alloc | apply pw_below_drewN | apply below_drew1) | exact HB.out)) hb); clear HB; have HB := n0_; clear n0_; (try clear hb); (try clear hb2); (try clear hk); (try clear hi))); try go_wp2_with (first | (go_at_call 24; (with_reducible refine (tripartiteref06_rises.calls k a0 a1 _ _ l3 false _ ?side1 ?side2 A10.out).mono ?_); (case side1 => repeat (first | exact (Kd.C_below HR3.out HB.out) | (with_reducible refine Kd.C_alloc ?_ _) | (with_reducible refine Kd.C_drewN ?_ _) | (with_reducible refine Kd.C_drew ?_))); (case side2 => exact HC3.out); rintro e w15 ⟨rfl, hb⟩; have n0_ := Aside0.mk (below_step (by repeat (first | (with_reducible first | exact HB.out | apply below_alloc | apply pw_below_drewN | apply below_drew1) | exact HB.out)) hb); clear HB; have HB := n0_; clear n0_; (try clear hb); (try clear hb2); (try clear hk); (try clear hi))))
      go_meet
      case rel => exact ⟨_, (true), (by first | rfl | (simp; done) | (simp [*]; done)), H', ⟨by first | omega | exact Nat.le_refl _⟩, ⟨by repeat (first | (with_reducible first | exact HB.out | apply below_alloc | apply pw_below_drewN | apply below_drew1) | exact HB.out)⟩⟩
 case rest =>
  clear HC6
  try clear c1
  try clear p2
  try clear c3
  try clear c4
  try clear c7
  try clear c7b0
  try clear c8
  try clear c8b0
  try clear c9
  try clear c9b0
  try clear c11
  obtain ⟨kq, x42_5, rfl, HA, HJ5, HB⟩ := hcut
  cases kq with
  | zero => exact absurd HA.out (by simp [tripartiteref06_Of.j0])
  | succ kj5 =>
   have H := HA.out
   clear HA
   simp only [tripartiteref06_Of.j0] at H
   by_cases c16 : x42_5 = true
   ·subst c16
    have H1 : (some (([] : List (S43)), false)) = some (r1, r2) := by rw [if_pos rfl] at H; exact H
    clear H
    have H := H1
    clear H1
    simp only [Option.some.injEq, Prod.mk.injEq] at H
    obtain ⟨rfl, rfl⟩ := H
    go_wp2
    repeat (go_quiet (fail); try go_wp2)
    go_ret2
    exact ⟨_, by first | rfl | (simp [errW_none, errW_some] <;> rfl) | (simp [*, errW_none, errW_some] <;> rfl), by first | exact Kd.R_nil _ _ _ _ _ | exact Kd.N_nil _ _ _ _ _ | exact Kd.V_nil _ _ _ _ _ | exact Kd.Q_nil _ _ _ _ _ | exact Kd.S_nil _ _ _ _ _, by repeat (first | (with_reducible first | exact HB.out | apply below_alloc | apply pw_below_drewN | apply below_drew1) | exact HB.out)⟩
   ·replace c16 := Bool.eq_false_iff.mpr c16
    subst c16
    have H1 : (tripartiteref06_Of.l0 kj5 a0 a1 a2 l3 l4 ([] : List (S43)) 0 0 0) = some (r1, r2) := by rw [if_neg (show ¬ (false = true) by decide)] at H; exact H
    clear H
    have H := H1
    clear H1
    have H' := Aside0.mk H
    clear H
    go_wp2
    repeat (go_quiet (fail); try go_wp2)
    go_loopg [12, 13, 14, 15] kj5 (fun kq v12 v13 v14 v15 w' => ∃ (x12_2 : List (S43)) (x13_2 : Int) (x14_2 : Int) (x15_2 : Int), v13 = .int .i64 x13_2 ∧ v14 = .int .i64 x14_2 ∧ v15 = .int .i64 x15_2 ∧ Aside0 (tripartiteref06_Of.l0 kq a0 a1 a2 l3 l4 x12_2 x13_2 x14_2 x15_2 = some (r1, r2)) ∧ Aside0 (kq ≤ kj5) ∧ Aside0 (Kd.R k43 43 w' w.heap.size (fun _ => True) v12 x12_2) ∧ Aside0 (Below w.heap.size w w'))
    case atStart => exact ⟨(([] : List (S43))), (0), (0), (0), (by first | rfl | (simp; done) | (simp [*]; done)), (by first | rfl | (simp; done) | (simp [*]; done)), (by first | rfl | (simp; done) | (simp [*]; done)), H', ⟨Nat.le_refl _⟩, ⟨by first | exact Kd.R_nil _ _ _ _ _ | exact Kd.N_nil _ _ _ _ _ | exact Kd.V_nil _ _ _ _ _ | exact Kd.Q_nil _ _ _ _ _ | exact Kd.S_nil _ _ _ _ _⟩, ⟨by repeat (first | (with_reducible first | exact HB.out | apply below_alloc | apply pw_below_drewN | apply below_drew1) | exact HB.out)⟩⟩
    case round =>
     clear H'
     try clear c1
     try clear p2
     try clear c3
     try clear c4
     try clear c7
     try clear c7b0
     try clear c8
     try clear c8b0
     try clear c9
     try clear c9b0
     try clear c11
     try clear c16
     try clear p2
     obtain ⟨x12_2, x13_2, x14_2, x15_2, rfl, rfl, rfl, HA, HK2, HO_12, HB⟩ := hrel
     cases gk with
     | zero => exact absurd HA.out (by simp [tripartiteref06_Of.l0])
     | succ k2 =>
      have H := HA.out
      clear HA
      simp only [tripartiteref06_Of.l0] at H
      have HC17 := Aside0.mk H
      clear H
      go_upto_region 5 with (fail)
      repeat (go_quiet (fail); go_upto_region 5 with (fail))
      go_cut [55] (fun v55 wc => ∃ (kq : Nat) (x55_16 : Bool), v55 = .bool x55_16 ∧ Aside0 (tripartiteref06_Of.j2 kq a0 a1 a2 l3 l4 x12_2 x13_2 x14_2 x15_2 x55_16 = some (r1, r2)) ∧ Aside0 (kq ≤ k2) ∧ Aside0 (Kd.R k43 43 wc w.heap.size (fun _ => True) u12 x12_2) ∧ Aside0 (Below w.heap.size w wc))
      case first =>
       have H := HC17.out
       clear HC17
       by_cases c18 : x13_2 < a0
       ·rw [if_pos c18] at H
        have c18b0 : decide (x13_2 < a0) = true := decide_eq_true c18
        clear c18
        (first | rw [c18b0] | (simp only [i64_w, i32_w]; rw [c18b0]) | skip)
        have H' := Aside0.mk H
        clear H
        go_wp2
        repeat (go_quiet (fail); try go_wp2)
        go_meet
        case rel => exact ⟨_, (true), (by first | rfl | (simp; done) | (simp [*]; done)), H', ⟨by have := HJ5.out; have := HK2.out; first | omega | exact Nat.le_refl _⟩, ⟨by (with_reducible repeat (first | apply Kd.R_alloc | apply Kd.R_drewN | apply Kd.R_drew)); exact HO_12.out⟩, ⟨by repeat (first | (with_reducible first | exact HB.out | apply below_alloc | apply pw_below_drewN | apply below_drew1) | exact HB.out)⟩⟩
       ·rw [if_neg c18] at H
        have c18b0 : decide (x13_2 < a0) = false := decide_eq_false c18
        clear c18
        (first | rw [c18b0] | (simp only [i64_w, i32_w]; rw [c18b0]) | skip)
        by_cases c19 : x14_2 < a1
        ·rw [if_pos c19] at H
         have c19b0 : decide (x14_2 < a1) = true := decide_eq_true c19
         clear c19
         have H' := Aside0.mk H
         clear H
         go_wp2
         repeat (go_quiet (fail); try go_wp2)
         go_meet
         case rel => exact ⟨_, (true), (by first | rfl | (simp; done) | (simp [*]; done)), H', ⟨by have := HJ5.out; have := HK2.out; first | omega | exact Nat.le_refl _⟩, ⟨by (with_reducible repeat (first | apply Kd.R_alloc | apply Kd.R_drewN | apply Kd.R_drew)); exact HO_12.out⟩, ⟨by repeat (first | (with_reducible first | exact HB.out | apply below_alloc | apply pw_below_drewN | apply below_drew1) | exact HB.out)⟩⟩
        ·rw [if_neg c19] at H
         have c19b0 : decide (x14_2 < a1) = false := decide_eq_false c19
         clear c19
         have H' := Aside0.mk H
         clear H
         go_wp2
         repeat (go_quiet (fail); try go_wp2)
         go_meet
         case rel => exact ⟨_, (decide (x15_2 < a2)), (by first | rfl | (simp; done) | (simp [*]; done)), H', ⟨by have := HJ5.out; have := HK2.out; first | omega | exact Nat.le_refl _⟩, ⟨by (with_reducible repeat (first | apply Kd.R_alloc | apply Kd.R_drewN | apply Kd.R_drew)); exact HO_12.out⟩, ⟨by repeat (first | (with_reducible first | exact HB.out | apply below_alloc | apply pw_below_drewN | apply below_drew1) | exact HB.out)⟩⟩
      case rest =>
       clear HC17
       try clear c1
       try clear p2
       try clear c3
       try clear c4
       try clear c7
       try clear c7b0
       try clear c8
       try clear c8b0
       try clear c9
       try clear c9b0
       try clear c11
       try clear c16
       try clear c18
       try clear c18b0
       try clear c19
       try clear c19b0
       try clear p2
       obtain ⟨kq, x55_16, rfl, HA, HJ16, HO_12, HB⟩ := hcut
       cases kq with
       | zero => exact absurd HA.out (by simp [tripartiteref06_Of.j2])
       | succ kj16 =>
        have H := HA.out
        clear HA
        simp only [tripartiteref06_Of.j2] at H
        by_cases c20 : x55_16 = true
        ·subst c20
         have H1 : (tripartiteref06_Of.l1 kj16 a0 a1 a2 l3 l4 x12_2 x13_2 x14_2 x15_2 0) = some (r1, r2) := by rw [if_pos rfl] at H; exact H
         clear H
         have H := H1
         clear H1
         have HC21 := Aside0.mk H
         clear H
         go_upto_block 2 with (fail)
         repeat (go_quiet (fail); go_upto_block 2 with (fail))
         go_cut [16] (fun v16 wc => ∃ (kq : Nat) (x16_20 : Int), v16 = .int .i64 x16_20 ∧ Aside0 (tripartiteref06_Of.j4 kq a0 a1 a2 l3 l4 x12_2 x13_2 x14_2 x15_2 x16_20 = some (r1, r2)) ∧ Aside0 (kq ≤ kj16) ∧ Aside0 (Kd.R k43 43 wc w.heap.size (fun _ => True) u12 x12_2) ∧ Aside0 (Below w.heap.size w wc))
         case first =>
          have H := HC21.out
          clear HC21
          have H' := Aside0.mk H
          clear H
          go_wp2
          repeat (go_quiet (fail); try go_wp2)
          go_loopg [16] kj16 (fun kq v16 w' => ∃ (x16_4 : Int), v16 = .int .i64 x16_4 ∧ Aside0 (tripartiteref06_Of.l1 kq a0 a1 a2 l3 l4 x12_2 x13_2 x14_2 x15_2 x16_4 = some (r1, r2)) ∧ Aside0 (kq ≤ kj16) ∧ Aside0 (Kd.R k43 43 w' w.heap.size (fun _ => True) u12 x12_2) ∧ Aside0 (Below w.heap.size w w'))
          case atStart => exact ⟨(0), (by first | rfl | (simp; done) | (simp [*]; done)), H', ⟨Nat.le_refl _⟩, ⟨by (with_reducible repeat (first | apply Kd.R_alloc | apply Kd.R_drewN | apply Kd.R_drew)); exact HO_12.out⟩, ⟨by repeat (first | (with_reducible first | exact HB.out | apply below_alloc | apply pw_below_drewN | apply below_drew1) | exact HB.out)⟩⟩
          case round =>
           clear H'
           try clear c1
           try clear c2
           try clear p2
           try clear c3
           try clear c4
           try clear c7
           try clear c7b0
           try clear c8
           try clear c8b0
           try clear c9
           try clear c9b0
           try clear c11
           try clear c16
           try clear c18
           try clear c18b0
           try clear c19
           try clear c19b0
           try clear c20
           try clear p2
           obtain ⟨x16_4, rfl, HA, HK4, HO_12, HB⟩ := hrel
           cases gk with
           | zero => exact absurd HA.out (by simp [tripartiteref06_Of.l1])
           | succ k4 =>
            have H := HA.out
            clear HA
            simp only [tripartiteref06_Of.l1] at H
            by_cases c22 : (wrap64 (x13_2 + x16_4)) < a0
            ·rw [if_pos c22] at H
             have c22b0 : decide ((wrap64 (x13_2 + x16_4)) < a0) = true := decide_eq_true c22
             clear c22
             (first | rw [c22b0] | (simp only [i64_w, i32_w]; rw [c22b0]) | skip)
             replace H := Option.bind_eq_some_iff.mp H
             obtain ⟨t140, A230, H⟩ := H
             replace H : (if t140 = (wrap64 (x14_2 + x16_4)) then ((tripartiteref06_at.f k4 l4 (wrap64 (x13_2 + x16_4))).bind fun t141 => (if t141 = (wrap64 (x15_2 + x16_4)) then (tripartiteref06_Of.l1 k4 a0 a1 a2 l3 l4 x12_2 x13_2 x14_2 x15_2 (wrap64 (x16_4 + 1))) else (tripartiteref06_Of.j4 k4 a0 a1 a2 l3 l4 x12_2 x13_2 x14_2 x15_2 x16_4))) else (tripartiteref06_Of.j4 k4 a0 a1 a2 l3 l4 x12_2 x13_2 x14_2 x15_2 x16_4)) = some (r1, r2) := H
             have A23 := Aside0.mk A230
             clear A230
             by_cases c24 : t140 = (wrap64 (x14_2 + x16_4))
             ·rw [if_pos c24] at H
              have c24b0 : (t140 == (wrap64 (x14_2 + x16_4))) = true := beq_iff_eq.mpr c24
              have c24b1 : (t140 != (wrap64 (x14_2 + x16_4))) = false := bne_eq_false_iff_eq.mpr c24
              clear c24
              replace H := Option.bind_eq_some_iff.mp H
              obtain ⟨t141, A250, H⟩ := H
              replace H : (if t141 = (wrap64 (x15_2 + x16_4)) then (tripartiteref06_Of.l1 k4 a0 a1 a2 l3 l4 x12_2 x13_2 x14_2 x15_2 (wrap64 (x16_4 + 1))) else (tripartiteref06_Of.j4 k4 a0 a1 a2 l3 l4 x12_2 x13_2 x14_2 x15_2 x16_4)) = some (r1, r2) := H
              have A25 := Aside0.mk A250
              clear A250
              by_cases c26 : t141 = (wrap64 (x15_2 + x16_4))
              ·rw [if_pos c26] at H
               have c26b0 : (t141 == (wrap64 (x15_2 + x16_4))) = true := beq_iff_eq.mpr c26
               have c26b1 : (t141 != (wrap64 (x15_2 + x16_4))) = false := bne_eq_false_iff_eq.mpr c26
               clear c26
               have H' := Aside0.mk H
               clear H
               go_wp2_with (first | (go_at_call 25; (with_reducible refine (tripartiteref06_at.calls k4 _ _ l3 (wrap64 (x13_2 + x16_4)) t140 _ ?side1 ?side2 A23.out).mono ?_); (case side1 => repeat (first | exact (Kd.C_below HR3.out HB.out) | (with_reducible refine Kd.C_alloc ?_ _) | (with_reducible refine Kd.C_drewN ?_ _) | (with_reducible refine Kd.C_drew ?_))); (case side2 => exact HC3.out); rintro e w' ⟨rfl, ⟨nd, rfl⟩⟩; (try first | exact ⟨rfl, _, World.drewN_drewN _ _ _⟩ | exact ⟨rfl, _, Eq.trans (World.drewN_drewN _ _ _) (congrArg (World.drewN _) (Nat.add_assoc _ _ _))⟩)) | (go_at_call 25; (with_reducible refine (tripartiteref06_at.calls k4 _ _ l4 (wrap64 (x13_2 + x16_4)) t141 _ ?side1 ?side2 A25.out).mono ?_); (case side1 => repeat (first | exact (Kd.C_below HR4.out (by repeat (first | (with_reducible first | exact HB.out | apply below_alloc | apply pw_below_drewN | apply below_drew1) | exact HB.out))) | (with_reducible refine Kd.C_alloc ?_ _) | (with_reducible refine Kd.C_drewN ?_ _) | (with_reducible refine Kd.C_drew ?_))); (case side2 => exact HC4.out); rintro e w' ⟨rfl, ⟨nd, rfl⟩⟩; (try first | exact ⟨rfl, _, World.drewN_drewN _ _ _⟩ | exact ⟨rfl, _, Eq.trans (World.drewN_drewN _ _ _) (congrArg (World.drewN _) (Nat.add_assoc _ _ _))⟩)))
               repeat (go_quiet (first | (go_at_call 25; (with_reducible refine (tripartiteref06_at.calls k4 _ _ l3 (wrap64 (x13_2 + x16_4)) t140 _ ?side1 ?side2 A23.out).mono ?_); (case side1 => repeat (first | exact (Kd.C_below HR3.out HB.out) | (with_reducible refine Kd.C_alloc ?_ _) | (with_reducible refine Kd.C_drewN ?_ _) | (with_reducible refine Kd.C_drew ?_))); (case side2 => exact HC3.out); rintro e w' ⟨rfl, ⟨nd, rfl⟩⟩; (try first | exact ⟨rfl, _, World.drewN_drewN _ _ _⟩ | exact ⟨rfl, _, Eq.trans (World.drewN_drewN _ _ _) (congrArg (World.drewN _) (Nat.add_assoc _ _ _))⟩)) | (go_at_call 25; (with_reducible refine (tripartiteref06_at.calls k4 _ _ l4 (wrap64 (x13_2 + x16_4)) t141 _ ?side1 ?side2 A25.out).mono ?_); (case side1 => repeat (first | exact (Kd.C_below HR4.out (by repeat (first | (with_reducible first | exact HB.out | apply below_alloc | apply pw_below_drewN | apply below_drew1) | exact HB.out))) | (with_reducible refine Kd.C_alloc ?_ _) | (with_reducible refine Kd.C_drewN ?_ _) | (with_reducible refine Kd.C_drew ?_))); (case side2 => exact HC4.out); rintro e w' ⟨rfl, ⟨nd, rfl⟩⟩; (try first | exact ⟨rfl, _, World.drewN_drewN _ _ _⟩ | exact ⟨rfl, _, Eq.trans (World.drewN_drewN _ _ _) (congrArg (World.drewN _) (Nat.add_assoc _ _ _))⟩))); try go_wp2_with (first | (go_at_call 25; (with_reducible refine (tripartiteref06_at.calls k4 _ _ l3 (wrap64 (x13_2 + x16_4)) t140 _ ?side1 ?side2 A23.out).mono ?_); (case side1 => repeat (first | exact (Kd.C_below HR3.out HB.out) | (with_reducible refine Kd.C_alloc ?_ _) | (with_reducible refine Kd.C_drewN ?_ _) | (with_reducible refine Kd.C_drew ?_))); (case side2 => exact HC3.out); rintro e w' ⟨rfl, ⟨nd, rfl⟩⟩; (try first | exact ⟨rfl, _, World.drewN_drewN _ _ _⟩ | exact ⟨rfl, _, Eq.trans (World.drewN_drewN _ _ _) (congrArg (World.drewN _) (Nat.add_assoc _ _ _))⟩)) | (go_at_call 25; (with_reducible refine (tripartiteref06_at.calls k4 _ _ l4 (wrap64 (x13_2 + x16_4)) t141 _ ?side1 ?side2 A25.out).mono ?_); (case side1 => repeat (first | exact (Kd.C_below HR4.out (by repeat (first | (with_reducible first | exact HB.out | apply below_alloc | apply pw_below_drewN | apply below_drew1) | exact HB.out))) | (with_reducible refine Kd.C_alloc ?_ _) | (with_reducible refine Kd.C_drewN ?_ _) | (with_reducible refine Kd.C_drew ?_))); (case side2 => exact HC4.out); rintro e w' ⟨rfl, ⟨nd, rfl⟩⟩; (try first | exact ⟨rfl, _, World.drewN_drewN _ _ _⟩ | exact ⟨rfl, _, Eq.trans (World.drewN_drewN _ _ _) (congrArg (World.drewN _) (Nat.add_assoc _ _ _))⟩))))
               go_roundg k4
               case measure => have := HJ5.out; have := HK2.out; have := HJ16.out; have := HK4.out; omega
               case rel => exact ⟨(wrap64 (x16_4 + 1)), (by first | rfl | (simp; done) | (simp [*]; done)), H', ⟨by have := HJ5.out; have := HK2.out; have := HJ16.out; have := HK4.out; omega⟩, ⟨by (with_reducible repeat (first | apply Kd.R_alloc | apply Kd.R_drewN | apply Kd.R_drew)); exact HO_12.out⟩, ⟨by repeat (first | (with_reducible first | exact HB.out | apply below_alloc | apply pw_below_drewN | apply below_drew1) | exact HB.out)⟩⟩
              ·rw [if_neg c26] at H
               have c26b0 : (t141 == (wrap64 (x15_2 + x16_4))) = false := beq_eq_false_iff_ne.mpr c26
               have c26b1 : (t141 != (wrap64 (x15_2 + x16_4))) = true := bne_iff_ne.mpr c26
               have H' := Aside0.mk H
               clear H
               go_wp2_with (first | (go_at_call 25; (with_reducible refine (tripartiteref06_at.calls k4 _ _ l3 (wrap64 (x13_2 + x16_4)) t140 _ ?side1 ?side2 A23.out).mono ?_); (case side1 => repeat (first | exact (Kd.C_below HR3.out HB.out) | (with_reducible refine Kd.C_alloc ?_ _) | (with_reducible refine Kd.C_drewN ?_ _) | (with_reducible refine Kd.C_drew ?_))); (case side2 => exact HC3.out); rintro e w' ⟨rfl, ⟨nd, rfl⟩⟩; (try first | exact ⟨rfl, _, World.drewN_drewN _ _ _⟩ | exact ⟨rfl, _, Eq.trans (World.drewN_drewN _ _ _) (congrArg (World.drewN _) (Nat.add_assoc _ _ _))⟩)) | (go_at_call 25; (with_reducible refine (tripartiteref06_at.calls k4 _ _ l4 (wrap64 (x13_2 + x16_4)) t141 _ ?side1 ?side2 A25.out).mono ?_); (case side1 => repeat (first | exact (Kd.C_below HR4.out (by repeat (first | (with_reducible first | exact HB.out | apply below_alloc | apply pw_below_drewN | apply below_drew1) | exact HB.out))) | (with_reducible refine Kd.C_alloc ?_ _) | (with_reducible refine Kd.C_drewN ?_ _) | (with_reducible refine Kd.C_drew ?_))); (case side2 => exact HC4.out); rintro e w' ⟨rfl, ⟨nd, rfl⟩⟩; (try first | exact ⟨rfl, _, World.drewN_drewN _ _ _⟩ | exact ⟨rfl, _, Eq.trans (World.drewN_drewN _ _ _) (congrArg (World.drewN _) (Nat.add_assoc _ _ _))⟩)))
               repeat (go_quiet (first | (go_at_call 25; (with_reducible refine (tripartiteref06_at.calls k4 _ _ l3 (wrap64 (x13_2 + x16_4)) t140 _ ?side1 ?side2 A23.out).mono ?_); (case side1 => repeat (first | exact (Kd.C_below HR3.out HB.out) | (with_reducible refine Kd.C_alloc ?_ _) | (with_reducible refine Kd.C_drewN ?_ _) | (with_reducible refine Kd.C_drew ?_))); (case side2 => exact HC3.out); rintro e w' ⟨rfl, ⟨nd, rfl⟩⟩; (try first | exact ⟨rfl, _, World.drewN_drewN _ _ _⟩ | exact ⟨rfl, _, Eq.trans (World.drewN_drewN _ _ _) (congrArg (World.drewN _) (Nat.add_assoc _ _ _))⟩)) | (go_at_call 25; (with_reducible refine (tripartiteref06_at.calls k4 _ _ l4 (wrap64 (x13_2 + x16_4)) t141 _ ?side1 ?side2 A25.out).mono ?_); (case side1 => repeat (first | exact (Kd.C_below HR4.out (by repeat (first | (with_reducible first | exact HB.out | apply below_alloc | apply pw_below_drewN | apply below_drew1) | exact HB.out))) | (with_reducible refine Kd.C_alloc ?_ _) | (with_reducible refine Kd.C_drewN ?_ _) | (with_reducible refine Kd.C_drew ?_))); (case side2 => exact HC4.out); rintro e w' ⟨rfl, ⟨nd, rfl⟩⟩; (try first | exact ⟨rfl, _, World.drewN_drewN _ _ _⟩ | exact ⟨rfl, _, Eq.trans (World.drewN_drewN _ _ _) (congrArg (World.drewN _) (Nat.add_assoc _ _ _))⟩))); try go_wp2_with (first | (go_at_call 25; (with_reducible refine (tripartiteref06_at.calls k4 _ _ l3 (wrap64 (x13_2 + x16_4)) t140 _ ?side1 ?side2 A23.out).mono ?_); (case side1 => repeat (first | exact (Kd.C_below HR3.out HB.out) | (with_reducible refine Kd.C_alloc ?_ _) | (with_reducible refine Kd.C_drewN ?_ _) | (with_reducible refine Kd.C_drew ?_))); (case side2 => exact HC3.out); rintro e w' ⟨rfl, ⟨nd, rfl⟩⟩; (try first | exact ⟨rfl, _, World.drewN_drewN _ _ _⟩ | exact ⟨rfl, _, Eq.trans (World.drewN_drewN _ _ _) (congrArg (World.drewN _) (Nat.add_assoc _ _ _))⟩)) | (go_at_call 25; (with_reducible refine (tripartiteref06_at.calls k4 _ _ l4 (wrap64 (x13_2 + x16_4)) t141 _ ?side1 ?side2 A25.out).mono ?_); (case side1 => repeat (first | exact (Kd.C_below HR4.out (by repeat (first | (with_reducible first | exact HB.out | apply below_alloc | apply pw_below_drewN | apply below_drew1) | exact HB.out))) | (with_reducible refine Kd.C_alloc ?_ _) | (with_reducible refine Kd.C_drewN ?_ _) | (with_reducible refine Kd.C_drew ?_))); (case side2 => exact HC4.out); rintro e w' ⟨rfl, ⟨nd, rfl⟩⟩; (try first | exact ⟨rfl, _, World.drewN_drewN _ _ _⟩ | exact ⟨rfl, _, Eq.trans (World.drewN_drewN _ _ _) (congrArg (World.drewN _) (Nat.add_assoc _ _ _))⟩))))
               go_meet
               case rel => exact ⟨_, (x16_4), (by first | rfl | (simp; done) | (simp [*]; done)), H', ⟨by have := HJ5.out; have := HK2.out; have := HJ16.out; have := HK4.out; first | omega | exact Nat.le_refl _⟩, ⟨by (with_reducible repeat (first | apply Kd.R_alloc | apply Kd.R_drewN | apply Kd.R_drew)); exact HO_12.out⟩, ⟨by repeat (first | (with_reducible first | exact HB.out | apply below_alloc | apply pw_below_drewN | apply below_drew1) | exact HB.out)⟩⟩
             ·rw [if_neg c24] at H
              have c24b0 : (t140 == (wrap64 (x14_2 + x16_4))) = false := beq_eq_false_iff_ne.mpr c24
              have c24b1 : (t140 != (wrap64 (x14_2 + x16_4))) = true := bne_iff_ne.mpr c24
              have H' := Aside0.mk H
              clear H
              go_wp2_with (first | (go_at_call 25; (with_reducible refine (tripartiteref06_at.calls k4 _ _ l3 (wrap64 (x13_2 + x16_4)) t140 _ ?side1 ?side2 A23.out).mono ?_); (case side1 => repeat (first | exact (Kd.C_below HR3.out HB.out) | (with_reducible refine Kd.C_alloc ?_ _) | (with_reducible refine Kd.C_drewN ?_ _) | (with_reducible refine Kd.C_drew ?_))); (case side2 => exact HC3.out); rintro e w' ⟨rfl, ⟨nd, rfl⟩⟩; (try first | exact ⟨rfl, _, World.drewN_drewN _ _ _⟩ | exact ⟨rfl, _, Eq.trans (World.drewN_drewN _ _ _) (congrArg (World.drewN _) (Nat.add_assoc _ _ _))⟩)))
              repeat (go_quiet (first | (go_at_call 25; (with_reducible refine (tripartiteref06_at.calls k4 _ _ l3 (wrap64 (x13_2 + x16_4)) t140 _ ?side1 ?side2 A23.out).mono ?_); (case side1 => repeat (first | exact (Kd.C_below HR3.out HB.out) | (with_reducible refine Kd.C_alloc ?_ _) | (with_reducible refine Kd.C_drewN ?_ _) | (with_reducible refine Kd.C_drew ?_))); (case side2 => exact HC3.out); rintro e w' ⟨rfl, ⟨nd, rfl⟩⟩; (try first | exact ⟨rfl, _, World.drewN_drewN _ _ _⟩ | exact ⟨rfl, _, Eq.trans (World.drewN_drewN _ _ _) (congrArg (World.drewN _) (Nat.add_assoc _ _ _))⟩))); try go_wp2_with (first | (go_at_call 25; (with_reducible refine (tripartiteref06_at.calls k4 _ _ l3 (wrap64 (x13_2 + x16_4)) t140 _ ?side1 ?side2 A23.out).mono ?_); (case side1 => repeat (first | exact (Kd.C_below HR3.out HB.out) | (with_reducible refine Kd.C_alloc ?_ _) | (with_reducible refine Kd.C_drewN ?_ _) | (with_reducible refine Kd.C_drew ?_))); (case side2 => exact HC3.out); rintro e w' ⟨rfl, ⟨nd, rfl⟩⟩; (try first | exact ⟨rfl, _, World.drewN_drewN _ _ _⟩ | exact ⟨rfl, _, Eq.trans (World.drewN_drewN _ _ _) (congrArg (World.drewN _) (Nat.add_assoc _ _ _))⟩))))
              go_meet
              case rel => exact ⟨_, (x16_4), (by first | rfl | (simp; done) | (simp [*]; done)), H', ⟨by have := HJ5.out; have := HK2.out; have := HJ16.out; have := HK4.out; first | omega | exact Nat.le_refl _⟩, ⟨by (with_reducible repeat (first | apply Kd.R_alloc | apply Kd.R_drewN | apply Kd.R_drew)); exact HO_12.out⟩, ⟨by repeat (first | (with_reducible first | exact HB.out | apply below_alloc | apply pw_below_drewN | apply below_drew1) | exact HB.out)⟩⟩
            ·rw [if_neg c22] at H
             have c22b0 : decide ((wrap64 (x13_2 + x16_4)) < a0) = false := decide_eq_false c22
             clear c22
             (first | rw [c22b0] | (simp only [i64_w, i32_w]; rw [c22b0]) | skip)
             have H' := Aside0.mk H
             clear H
             go_wp2
             repeat (go_quiet (fail); try go_wp2)
             go_meet
             case rel => exact ⟨_, (x16_4), (by first | rfl | (simp; done) | (simp [*]; done)), H', ⟨by have := HJ5.out; have := HK2.out; have := HJ16.out; have := HK4.out; first | omega | exact Nat.le_refl _⟩, ⟨by (with_reducible repeat (first | apply Kd.R_alloc | apply Kd.R_drewN | apply Kd.R_drew)); exact HO_12.out⟩, ⟨by repeat (first | (with_reducible first | exact HB.out | apply below_alloc | apply pw_below_drewN | apply below_drew1) | exact HB.out)⟩⟩
         case rest =>
          clear HC21
          try clear c1
          try clear c2
          try clear p2
          try clear c3
          try clear c4
          try clear p6
          try clear c7
          try clear c7b0
          try clear c8
          try clear c8b0
          try clear c9
          try clear c9b0
          try clear c11
          try clear c16
          try clear c18
          try clear c18b0
          try clear c19
          try clear c19b0
          try clear c20
          try clear c22
          try clear c22b0
          try clear c24
          try clear c24b0
          try clear c24b1
          try clear c26
          try clear c26b0
          try clear c26b1
          try clear p2
          obtain ⟨kq, x16_20, rfl, HA, HJ20, HO_12, HB⟩ := hcut
          cases kq with
          | zero => exact absurd HA.out (by simp [tripartiteref06_Of.j4])
          | succ kj20 =>
           have H := HA.out
           clear HA
           simp only [tripartiteref06_Of.j4] at H
           by_cases c27 : x16_20 = 0
           ·rw [if_pos c27] at H
            have c27b0 : (x16_20 == 0) = true := beq_iff_eq.mpr c27
            have c27b1 : (x16_20 != 0) = false := bne_eq_false_iff_eq.mpr c27
            clear c27
            have HC28 := Aside0.mk H
            clear H
            go_upto_block 4 with (first | ((with_reducible refine gate_dst (N := 17) rfl ?_); refine box_event ?hg (N := 17) ?hd (cs := #[.bool false, .int .i64 0, .int .i64 0, .int .i64 0, .int .i64 0, .int .i64 0, .int .i64 0]) (t := 43) ?hr ?_; (case hd => rfl); (case hg => rfl); (case hr => first | (go_simp; done) | (go_simp; rfl)); intro gb142 hg w29 hbox hb; have n0_ := Aside0.mk (Kd.R_below (Kd.R_elderB (by (with_reducible repeat (first | apply Kd.R_alloc | apply Kd.R_drewN | apply Kd.R_drew)); exact HO_12.out) gb142 (Nat.le_of_eq hg.symm)) hb); have n1_ := Aside0.mk (below_step (by repeat (first | (with_reducible first | exact HB.out | apply below_alloc | apply pw_below_drewN | apply below_drew1) | exact HB.out)) hb); have n2_ := Aside0.mk (hbox); have n3_ := Aside0.mk ((by rw [hg]; exact (below_size (by repeat (first | (with_reducible first | exact HB.out | apply below_alloc | apply pw_below_drewN | apply below_drew1) | exact HB.out))) : w.heap.size ≤ gb142)); have n4_ := Aside0.mk ((by rw [hg]; exact (below_size (by repeat (first | (with_reducible first | exact HB.out | apply below_alloc | apply pw_below_drewN | apply below_drew1) | exact HB.out))) : w.heap.size ≤ gb142)); clear HO_12; clear HB; have HO_12 := n0_; have HB := n1_; have BK142 := n2_; have GW142 := n3_; have GE142 := n4_; clear n0_ n1_ n2_ n3_ n4_; clear hb hbox hg; have hcz30_0 : w29.cell? ⟨gb142, 0, none⟩ = some (.bool false) := (blk_cell BK142.out 0).trans rfl; have hcz30_1 : w29.cell? ⟨gb142, 1, none⟩ = some (.int .i64 0) := (blk_cell BK142.out 1).trans rfl; have hcz30_2 : w29.cell? ⟨gb142, 2, none⟩ = some (.int .i64 0) := (blk_cell BK142.out 2).trans rfl; have hcz30_3 : w29.cell? ⟨gb142, 3, none⟩ = some (.int .i64 0) := (blk_cell BK142.out 3).trans rfl; have hcz30_4 : w29.cell? ⟨gb142, 4, none⟩ = some (.int .i64 0) := (blk_cell BK142.out 4).trans rfl; have hcz30_5 : w29.cell? ⟨gb142, 5, none⟩ = some (.int .i64 0) := (blk_cell BK142.out 5).trans rfl; have hcz30_6 : w29.cell? ⟨gb142, 6, none⟩ = some (.int .i64 0) := (blk_cell BK142.out 6).trans rfl; have hfz30_0 := blk_frozen BK142.out 0; have hfz30_1 := blk_frozen BK142.out 1; have hfz30_2 := blk_frozen BK142.out 2; have hfz30_3 := blk_frozen BK142.out 3; have hfz30_4 := blk_frozen BK142.out 4; have hfz30_5 := blk_frozen BK142.out 5; have hfz30_6 := blk_frozen BK142.out 6))
            repeat (go_quiet (first | ((with_reducible refine gate_dst (N := 17) rfl ?_); refine box_event ?hg (N := 17) ?hd (cs := #[.bool false, .int .i64 0, .int .i64 0, .int .i64 0, .int .i64 0, .int .i64 0, .int .i64 0]) (t := 43) ?hr ?_; (case hd => rfl); (case hg => rfl); (case hr => first | (go_simp; done) | (go_simp; rfl)); intro gb142 hg w29 hbox hb; have n0_ := Aside0.mk (Kd.R_below (Kd.R_elderB (by (with_reducible repeat (first | apply Kd.R_alloc | apply Kd.R_drewN | apply Kd.R_drew)); exact HO_12.out) gb142 (Nat.le_of_eq hg.symm)) hb); have n1_ := Aside0.mk (below_step (by repeat (first | (with_reducible first | exact HB.out | apply below_alloc | apply pw_below_drewN | apply below_drew1) | exact HB.out)) hb); have n2_ := Aside0.mk (hbox); have n3_ := Aside0.mk ((by rw [hg]; exact (below_size (by repeat (first | (with_reducible first | exact HB.out | apply below_alloc | apply pw_below_drewN | apply below_drew1) | exact HB.out))) : w.heap.size ≤ gb142)); have n4_ := Aside0.mk ((by rw [hg]; exact (below_size (by repeat (first | (with_reducible first | exact HB.out | apply below_alloc | apply pw_below_drewN | apply below_drew1) | exact HB.out))) : w.heap.size ≤ gb142)); clear HO_12; clear HB; have HO_12 := n0_; have HB := n1_; have BK142 := n2_; have GW142 := n3_; have GE142 := n4_; clear n0_ n1_ n2_ n3_ n4_; clear hb hbox hg; have hcz30_0 : w29.cell? ⟨gb142, 0, none⟩ = some (.bool false) := (blk_cell BK142.out 0).trans rfl; have hcz30_1 : w29.cell? ⟨gb142, 1, none⟩ = some (.int .i64 0) := (blk_cell BK142.out 1).trans rfl; have hcz30_2 : w29.cell? ⟨gb142, 2, none⟩ = some (.int .i64 0) := (blk_cell BK142.out 2).trans rfl; have hcz30_3 : w29.cell? ⟨gb142, 3, none⟩ = some (.int .i64 0) := (blk_cell BK142.out 3).trans rfl; have hcz30_4 : w29.cell? ⟨gb142, 4, none⟩ = some (.int .i64 0) := (blk_cell BK142.out 4).trans rfl; have hcz30_5 : w29.cell? ⟨gb142, 5, none⟩ = some (.int .i64 0) := (blk_cell BK142.out 5).trans rfl; have hcz30_6 : w29.cell? ⟨gb142, 6, none⟩ = some (.int .i64 0) := (blk_cell BK142.out 6).trans rfl; have hfz30_0 := blk_frozen BK142.out 0; have hfz30_1 := blk_frozen BK142.out 1; have hfz30_2 := blk_frozen BK142.out 2; have hfz30_3 := blk_frozen BK142.out 3; have hfz30_4 := blk_frozen BK142.out 4; have hfz30_5 := blk_frozen BK142.out 5; have hfz30_6 := blk_frozen BK142.out 6)); go_upto_block 4 with (first | ((with_reducible refine gate_dst (N := 17) rfl ?_); refine box_event ?hg (N := 17) ?hd (cs := #[.bool false, .int .i64 0, .int .i64 0, .int .i64 0, .int .i64 0, .int .i64 0, .int .i64 0]) (t := 43) ?hr ?_; (case hd => rfl); (case hg => rfl); (case hr => first | (go_simp; done) | (go_simp; rfl)); intro gb142 hg w29 hbox hb; have n0_ := Aside0.mk (Kd.R_below (Kd.R_elderB (by (with_reducible repeat (first | apply Kd.R_alloc | apply Kd.R_drewN | apply Kd.R_drew)); exact HO_12.out) gb142 (Nat.le_of_eq hg.symm)) hb); have n1_ := Aside0.mk (below_step (by repeat (first | (with_reducible first | exact HB.out | apply below_alloc | apply pw_below_drewN | apply below_drew1) | exact HB.out)) hb); have n2_ := Aside0.mk (hbox); have n3_ := Aside0.mk ((by rw [hg]; exact (below_size (by repeat (first | (with_reducible first | exact HB.out | apply below_alloc | apply pw_below_drewN | apply below_drew1) | exact HB.out))) : w.heap.size ≤ gb142)); have n4_ := Aside0.mk ((by rw [hg]; exact (below_size (by repeat (first | (with_reducible first | exact HB.out | apply below_alloc | apply pw_below_drewN | apply below_drew1) | exact HB.out))) : w.heap.size ≤ gb142)); clear HO_12; clear HB; have HO_12 := n0_; have HB := n1_; have BK142 := n2_; have GW142 := n3_; have GE142 := n4_; clear n0_ n1_ n2_ n3_ n4_; clear hb hbox hg; have hcz30_0 : w29.cell? ⟨gb142, 0, none⟩ = some (.bool false) := (blk_cell BK142.out 0).trans rfl; have hcz30_1 : w29.cell? ⟨gb142, 1, none⟩ = some (.int .i64 0) := (blk_cell BK142.out 1).trans rfl; have hcz30_2 : w29.cell? ⟨gb142, 2, none⟩ = some (.int .i64 0) := (blk_cell BK142.out 2).trans rfl; have hcz30_3 : w29.cell? ⟨gb142, 3, none⟩ = some (.int .i64 0) := (blk_cell BK142.out 3).trans rfl; have hcz30_4 : w29.cell? ⟨gb142, 4, none⟩ = some (.int .i64 0) := (blk_cell BK142.out 4).trans rfl; have hcz30_5 : w29.cell? ⟨gb142, 5, none⟩ = some (.int .i64 0) := (blk_cell BK142.out 5).trans rfl; have hcz30_6 : w29.cell? ⟨gb142, 6, none⟩ = some (.int .i64 0) := (blk_cell BK142.out 6).trans rfl; have hfz30_0 := blk_frozen BK142.out 0; have hfz30_1 := blk_frozen BK142.out 1; have hfz30_2 := blk_frozen BK142.out 2; have hfz30_3 := blk_frozen BK142.out 3; have hfz30_4 := blk_frozen BK142.out 4; have hfz30_5 := blk_frozen BK142.out 5; have hfz30_6 := blk_frozen BK142.out 6)))
            (try simp only [Act.put, List.setIfInBounds_toArray, List.set_cons_zero, List.set_cons_succ])
            go_cut [18] (fun v18 wc => ∃ (kq : Nat) (x18_27 : Int), v18 = .int .i64 x18_27 ∧ Aside0 (tripartiteref06_Of.j6 kq a0 a1 a2 l3 l4 x12_2 x18_27 (decide (x16_20 > 0)) x13_2 (wrap64 (x13_2 + x16_20)) x14_2 (wrap64 (x14_2 + x16_20)) x15_2 (wrap64 (x15_2 + x16_20)) = some (r1, r2)) ∧ Aside0 (kq ≤ kj20) ∧ Aside0 (Kd.R k43 43 wc w.heap.size (fun k_ => k_ ≠ gb142) u12 x12_2) ∧ Aside0 (wc.heap[gb142]? = some (.cells #[.bool (decide (x16_20 > 0)), .int .i64 x13_2, .int .i64 (wrap64 (x13_2 + x16_20)), .int .i64 x14_2, .int .i64 (wrap64 (x14_2 + x16_20)), .int .i64 x15_2, .int .i64 (wrap64 (x15_2 + x16_20))] 43 (0, 0))) ∧ Aside0 (Below w.heap.size w wc))
            case first =>
             have H := HC28.out
             clear HC28
             have H' := Aside0.mk H
             clear H
             go_wp2
             repeat (go_quiet (fail); try go_wp2)
             go_loopg [18] kj20 (fun kq v18 w' => ∃ (x18_5 : Int), v18 = .int .i64 x18_5 ∧ Aside0 (tripartiteref06_Of.l2 kq a0 a1 a2 l3 l4 x12_2 x14_2 x15_2 x18_5 (decide (x16_20 > 0)) x13_2 (wrap64 (x13_2 + x16_20)) x14_2 (wrap64 (x14_2 + x16_20)) x15_2 (wrap64 (x15_2 + x16_20)) = some (r1, r2)) ∧ Aside0 (kq ≤ kj20) ∧ Aside0 (Kd.R k43 43 w' w.heap.size (fun k_ => k_ ≠ gb142) u12 x12_2) ∧ Aside0 (w'.heap[gb142]? = some (.cells #[.bool (decide (x16_20 > 0)), .int .i64 x13_2, .int .i64 (wrap64 (x13_2 + x16_20)), .int .i64 x14_2, .int .i64 (wrap64 (x14_2 + x16_20)), .int .i64 x15_2, .int .i64 (wrap64 (x15_2 + x16_20))] 43 (0, 0))) ∧ Aside0 (Below w.heap.size w w'))
             case atStart => exact ⟨(x13_2), (by first | rfl | (simp; done) | (simp [*]; done)), H', ⟨Nat.le_refl _⟩, ⟨by (with_reducible repeat (first | apply Kd.R_alloc | apply Kd.R_drewN | apply Kd.R_drew)); exact Kd.R_mono (Kd.R_far (p := ⟨gb142, 6, none⟩) (Kd.R_far (p := ⟨gb142, 5, none⟩) (Kd.R_far (p := ⟨gb142, 4, none⟩) (Kd.R_far (p := ⟨gb142, 3, none⟩) (Kd.R_far (p := ⟨gb142, 2, none⟩) (Kd.R_far (p := ⟨gb142, 1, none⟩) (Kd.R_far (p := ⟨gb142, 0, none⟩) (Kd.R_mono HO_12.out (fun k_ hk => (⟨hk, hk.2⟩ : _ ∧ k_ ≠ gb142))) (fun _ hk => hk.2) (.bool (decide (x16_20 > 0)))) (fun _ hk => hk.2) (.int .i64 x13_2)) (fun _ hk => hk.2) (.int .i64 (wrap64 (x13_2 + x16_20)))) (fun _ hk => hk.2) (.int .i64 x14_2)) (fun _ hk => hk.2) (.int .i64 (wrap64 (x14_2 + x16_20)))) (fun _ hk => hk.2) (.int .i64 x15_2)) (fun _ hk => hk.2) (.int .i64 (wrap64 (x15_2 + x16_20)))) (fun _ hk => hk.1.2)⟩, ⟨by (with_reducible repeat (first | refine blk_drewN ?_ _ | refine blk_drew ?_ | refine blk_alloc ?_ _)); refine blk_put (cs := #[.bool (decide (x16_20 > 0)), .int .i64 x13_2, .int .i64 (wrap64 (x13_2 + x16_20)), .int .i64 x14_2, .int .i64 (wrap64 (x14_2 + x16_20)), .int .i64 x15_2, .int .i64 0]) ?_ 6 _ rfl; (with_reducible repeat (first | refine blk_drewN ?_ _ | refine blk_drew ?_ | refine blk_alloc ?_ _)); refine blk_put (cs := #[.bool (decide (x16_20 > 0)), .int .i64 x13_2, .int .i64 (wrap64 (x13_2 + x16_20)), .int .i64 x14_2, .int .i64 (wrap64 (x14_2 + x16_20)), .int .i64 0, .int .i64 0]) ?_ 5 _ rfl; (with_reducible repeat (first | refine blk_drewN ?_ _ | refine blk_drew ?_ | refine blk_alloc ?_ _)); refine blk_put (cs := #[.bool (decide (x16_20 > 0)), .int .i64 x13_2, .int .i64 (wrap64 (x13_2 + x16_20)), .int .i64 x14_2, .int .i64 0, .int .i64 0, .int .i64 0]) ?_ 4 _ rfl; (with_reducible repeat (first | refine blk_drewN ?_ _ | refine blk_drew ?_ | refine blk_alloc ?_ _)); refine blk_put (cs := #[.bool (decide (x16_20 > 0)), .int .i64 x13_2, .int .i64 (wrap64 (x13_2 + x16_20)), .int .i64 0, .int .i64 0, .int .i64 0, .int .i64 0]) ?_ 3 _ rfl; (with_reducible repeat (first | refine blk_drewN ?_ _ | refine blk_drew ?_ | refine blk_alloc ?_ _)); refine blk_put (cs := #[.bool (decide (x16_20 > 0)), .int .i64 x13_2, .int .i64 0, .int .i64 0, .int .i64 0, .int .i64 0, .int .i64 0]) ?_ 2 _ rfl; (with_reducible repeat (first | refine blk_drewN ?_ _ | refine blk_drew ?_ | refine blk_alloc ?_ _)); refine blk_put (cs := #[.bool (decide (x16_20 > 0)), .int .i64 0, .int .i64 0, .int .i64 0, .int .i64 0, .int .i64 0, .int .i64 0]) ?_ 1 _ rfl; (with_reducible repeat (first | refine blk_drewN ?_ _ | refine blk_drew ?_ | refine blk_alloc ?_ _)); refine blk_put (cs := #[.bool false, .int .i64 0, .int .i64 0, .int .i64 0, .int .i64 0, .int .i64 0, .int .i64 0]) ?_ 0 _ rfl; (with_reducible repeat (first | refine blk_drewN ?_ _ | refine blk_drew ?_ | refine blk_alloc ?_ _)); exact BK142.out⟩, ⟨by repeat (first | (with_reducible first | exact HB.out | apply below_alloc | apply pw_below_drewN | apply below_drew1 | refine below_set ?_ GE142.out) | exact HB.out)⟩⟩
             case round =>
              clear H'
              try clear c1
              try clear c2
              try clear p2
              try clear c3
              try clear c4
              try clear p6
              try clear c7
              try clear c7b0
              try clear c8
              try clear c8b0
              try clear c9
              try clear c9b0
              try clear c11
              try clear c16
              try clear c18
              try clear c18b0
              try clear c19
              try clear c19b0
              try clear c20
              try clear c22
              try clear c22b0
              try clear c24
              try clear c24b0
              try clear c24b1
              try clear c26
              try clear c26b0
              try clear c26b1
              try clear c27
              try clear c27b0
              try clear c27b1
              try clear hcz30_0
              try clear hcz30_1
              try clear hcz30_2
              try clear hcz30_3
              try clear hcz30_4
              try clear hcz30_5
              try clear hcz30_6
              try clear hfz30_0
              try clear hfz30_1
              try clear hfz30_2
              try clear hfz30_3
              try clear hfz30_4
              try clear hfz30_5
              try clear hfz30_6
              try clear p2
              try clear p6
              obtain ⟨x18_5, rfl, HA, HK5, HO_12, BK142, HB⟩ := hrel
              cases gk with
              | zero => exact absurd HA.out (by simp [tripartiteref06_Of.l2])
              | succ k5 =>
               have H := HA.out
               clear HA
               simp only [tripartiteref06_Of.l2] at H
               by_cases c31 : x18_5 < a0
               ·rw [if_pos c31] at H
                have c31b0 : decide (x18_5 < a0) = true := decide_eq_true c31
                clear c31
                (first | rw [c31b0] | (simp only [i64_w, i32_w]; rw [c31b0]) | skip)
                replace H := Option.bind_eq_some_iff.mp H
                obtain ⟨t143, A320, H⟩ := H
                replace H : (if t143 < x14_2 then (tripartiteref06_Of.l2 k5 a0 a1 a2 l3 l4 x12_2 x14_2 x15_2 (wrap64 (x18_5 + 1)) (decide (x16_20 > 0)) x13_2 (wrap64 (x13_2 + x16_20)) x14_2 (wrap64 (x14_2 + x16_20)) x15_2 (wrap64 (x15_2 + x16_20))) else ((tripartiteref06_at.f k5 l4 x18_5).bind fun t144 => (if t144 < x15_2 then (tripartiteref06_Of.l2 k5 a0 a1 a2 l3 l4 x12_2 x14_2 x15_2 (wrap64 (x18_5 + 1)) (decide (x16_20 > 0)) x13_2 (wrap64 (x13_2 + x16_20)) x14_2 (wrap64 (x14_2 + x16_20)) x15_2 (wrap64 (x15_2 + x16_20))) else (tripartiteref06_Of.j6 k5 a0 a1 a2 l3 l4 x12_2 x18_5 (decide (x16_20 > 0)) x13_2 (wrap64 (x13_2 + x16_20)) x14_2 (wrap64 (x14_2 + x16_20)) x15_2 (wrap64 (x15_2 + x16_20)))))) = some (r1, r2) := H
                have A32 := Aside0.mk A320
                clear A320
                by_cases c33 : t143 < x14_2
                ·rw [if_pos c33] at H
                 have c33b0 : decide (t143 < x14_2) = true := decide_eq_true c33
                 clear c33
                 have H' := Aside0.mk H
                 clear H
                 go_wp2_with (first | (go_at_call 25; (with_reducible refine (tripartiteref06_at.calls k5 _ _ l3 x18_5 t143 _ ?side1 ?side2 A32.out).mono ?_); (case side1 => repeat (first | exact (Kd.C_below HR3.out HB.out) | (with_reducible refine Kd.C_alloc ?_ _) | (with_reducible refine Kd.C_drewN ?_ _) | (with_reducible refine Kd.C_drew ?_))); (case side2 => exact HC3.out); rintro e w' ⟨rfl, ⟨nd, rfl⟩⟩; (try first | exact ⟨rfl, _, World.drewN_drewN _ _ _⟩ | exact ⟨rfl, _, Eq.trans (World.drewN_drewN _ _ _) (congrArg (World.drewN _) (Nat.add_assoc _ _ _))⟩)))
                 repeat (go_quiet (first | (go_at_call 25; (with_reducible refine (tripartiteref06_at.calls k5 _ _ l3 x18_5 t143 _ ?side1 ?side2 A32.out).mono ?_); (case side1 => repeat (first | exact (Kd.C_below HR3.out HB.out) | (with_reducible refine Kd.C_alloc ?_ _) | (with_reducible refine Kd.C_drewN ?_ _) | (with_reducible refine Kd.C_drew ?_))); (case side2 => exact HC3.out); rintro e w' ⟨rfl, ⟨nd, rfl⟩⟩; (try first | exact ⟨rfl, _, World.drewN_drewN _ _ _⟩ | exact ⟨rfl, _, Eq.trans (World.drewN_drewN _ _ _) (congrArg (World.drewN _) (Nat.add_assoc _ _ _))⟩))); try go_wp2_with (first | (go_at_call 25; (with_reducible refine (tripartiteref06_at.calls k5 _ _ l3 x18_5 t143 _ ?side1 ?side2 A32.out).mono ?_); (case side1 => repeat (first | exact (Kd.C_below HR3.out HB.out) | (with_reducible refine Kd.C_alloc ?_ _) | (with_reducible refine Kd.C_drewN ?_ _) | (with_reducible refine Kd.C_drew ?_))); (case side2 => exact HC3.out); rintro e w' ⟨rfl, ⟨nd, rfl⟩⟩; (try first | exact ⟨rfl, _, World.drewN_drewN _ _ _⟩ | exact ⟨rfl, _, Eq.trans (World.drewN_drewN _ _ _) (congrArg (World.drewN _) (Nat.add_assoc _ _ _))⟩))))
                 go_roundg k5
                 case measure => have := HJ5.out; have := HK2.out; have := HJ16.out; have := HJ20.out; have := HK5.out; omega
                 case rel => exact ⟨(wrap64 (x18_5 + 1)), (by first | rfl | (simp; done) | (simp [*]; done)), H', ⟨by have := HJ5.out; have := HK2.out; have := HJ16.out; have := HJ20.out; have := HK5.out; omega⟩, ⟨by (with_reducible repeat (first | apply Kd.R_alloc | apply Kd.R_drewN | apply Kd.R_drew)); exact HO_12.out⟩, ⟨by (with_reducible repeat (first | refine blk_drewN ?_ _ | refine blk_drew ?_ | refine blk_alloc ?_ _)); exact BK142.out⟩, ⟨by repeat (first | (with_reducible first | exact HB.out | apply below_alloc | apply pw_below_drewN | apply below_drew1 | refine below_set ?_ GE142.out) | exact HB.out)⟩⟩
                ·rw [if_neg c33] at H
                 have c33b0 : decide (t143 < x14_2) = false := decide_eq_false c33
                 clear c33
                 replace H := Option.bind_eq_some_iff.mp H
                 obtain ⟨t144, A340, H⟩ := H
                 replace H : (if t144 < x15_2 then (tripartiteref06_Of.l2 k5 a0 a1 a2 l3 l4 x12_2 x14_2 x15_2 (wrap64 (x18_5 + 1)) (decide (x16_20 > 0)) x13_2 (wrap64 (x13_2 + x16_20)) x14_2 (wrap64 (x14_2 + x16_20)) x15_2 (wrap64 (x15_2 + x16_20))) else (tripartiteref06_Of.j6 k5 a0 a1 a2 l3 l4 x12_2 x18_5 (decide (x16_20 > 0)) x13_2 (wrap64 (x13_2 + x16_20)) x14_2 (wrap64 (x14_2 + x16_20)) x15_2 (wrap64 (x15_2 + x16_20)))) = some (r1, r2) := H
                 have A34 := Aside0.mk A340
                 clear A340
                 by_cases c35 : t144 < x15_2
                 ·rw [if_pos c35] at H
                  have c35b0 : decide (t144 < x15_2) = true := decide_eq_true c35
                  clear c35
                  have H' := Aside0.mk H
                  clear H
                  go_wp2_with (first | (go_at_call 25; (with_reducible refine (tripartiteref06_at.calls k5 _ _ l3 x18_5 t143 _ ?side1 ?side2 A32.out).mono ?_); (case side1 => repeat (first | exact (Kd.C_below HR3.out HB.out) | (with_reducible refine Kd.C_alloc ?_ _) | (with_reducible refine Kd.C_drewN ?_ _) | (with_reducible refine Kd.C_drew ?_))); (case side2 => exact HC3.out); rintro e w' ⟨rfl, ⟨nd, rfl⟩⟩; (try first | exact ⟨rfl, _, World.drewN_drewN _ _ _⟩ | exact ⟨rfl, _, Eq.trans (World.drewN_drewN _ _ _) (congrArg (World.drewN _) (Nat.add_assoc _ _ _))⟩)) | (go_at_call 25; (with_reducible refine (tripartiteref06_at.calls k5 _ _ l4 x18_5 t144 _ ?side1 ?side2 A34.out).mono ?_); (case side1 => repeat (first | exact (Kd.C_below HR4.out (by repeat (first | (with_reducible first | exact HB.out | apply below_alloc | apply pw_below_drewN | apply below_drew1 | refine below_set ?_ GE142.out) | exact HB.out))) | (with_reducible refine Kd.C_alloc ?_ _) | (with_reducible refine Kd.C_drewN ?_ _) | (with_reducible refine Kd.C_drew ?_))); (case side2 => exact HC4.out); rintro e w' ⟨rfl, ⟨nd, rfl⟩⟩; (try first | exact ⟨rfl, _, World.drewN_drewN _ _ _⟩ | exact ⟨rfl, _, Eq.trans (World.drewN_drewN _ _ _) (congrArg (World.drewN _) (Nat.add_assoc _ _ _))⟩)))
                  repeat (go_quiet (first | (go_at_call 25; (with_reducible refine (tripartiteref06_at.calls k5 _ _ l3 x18_5 t143 _ ?side1 ?side2 A32.out).mono ?_); (case side1 => repeat (first | exact (Kd.C_below HR3.out HB.out) | (with_reducible refine Kd.C_alloc ?_ _) | (with_reducible refine Kd.C_drewN ?_ _) | (with_reducible refine Kd.C_drew ?_))); (case side2 => exact HC3.out); rintro e w' ⟨rfl, ⟨nd, rfl⟩⟩; (try first | exact ⟨rfl, _, World.drewN_drewN _ _ _⟩ | exact ⟨rfl, _, Eq.trans (World.drewN_drewN _ _ _) (congrArg (World.drewN _) (Nat.add_assoc _ _ _))⟩)) | (go_at_call 25; (with_reducible refine (tripartiteref06_at.calls k5 _ _ l4 x18_5 t144 _ ?side1 ?side2 A34.out).mono ?_); (case side1 => repeat (first | exact (Kd.C_below HR4.out (by repeat (first | (with_reducible first | exact HB.out | apply below_alloc | apply pw_below_drewN | apply below_drew1 | refine below_set ?_ GE142.out) | exact HB.out))) | (with_reducible refine Kd.C_alloc ?_ _) | (with_reducible refine Kd.C_drewN ?_ _) | (with_reducible refine Kd.C_drew ?_))); (case side2 => exact HC4.out); rintro e w' ⟨rfl, ⟨nd, rfl⟩⟩; (try first | exact ⟨rfl, _, World.drewN_drewN _ _ _⟩ | exact ⟨rfl, _, Eq.trans (World.drewN_drewN _ _ _) (congrArg (World.drewN _) (Nat.add_assoc _ _ _))⟩))); try go_wp2_with (first | (go_at_call 25; (with_reducible refine (tripartiteref06_at.calls k5 _ _ l3 x18_5 t143 _ ?side1 ?side2 A32.out).mono ?_); (case side1 => repeat (first | exact (Kd.C_below HR3.out HB.out) | (with_reducible refine Kd.C_alloc ?_ _) | (with_reducible refine Kd.C_drewN ?_ _) | (with_reducible refine Kd.C_drew ?_))); (case side2 => exact HC3.out); rintro e w' ⟨rfl, ⟨nd, rfl⟩⟩; (try first | exact ⟨rfl, _, World.drewN_drewN _ _ _⟩ | exact ⟨rfl, _, Eq.trans (World.drewN_drewN _ _ _) (congrArg (World.drewN _) (Nat.add_assoc _ _ _))⟩)) | (go_at_call 25; (with_reducible refine (tripartiteref06_at.calls k5 _ _ l4 x18_5 t144 _ ?side1 ?side2 A34.out).mono ?_); (case side1 => repeat (first | exact (Kd.C_below HR4.out (by repeat (first | (with_reducible first | exact HB.out | apply below_alloc | apply pw_below_drewN | apply below_drew1 | refine below_set ?_ GE142.out) | exact HB.out))) | (with_reducible refine Kd.C_alloc ?_ _) | (with_reducible refine Kd.C_drewN ?_ _) | (with_reducible refine Kd.C_drew ?_))); (case side2 => exact HC4.out); rintro e w' ⟨rfl, ⟨nd, rfl⟩⟩; (try first | exact ⟨rfl, _, World.drewN_drewN _ _ _⟩ | exact ⟨rfl, _, Eq.trans (World.drewN_drewN _ _ _) (congrArg (World.drewN _) (Nat.add_assoc _ _ _))⟩))))
                  go_roundg k5
                  case measure => have := HJ5.out; have := HK2.out; have := HJ16.out; have := HJ20.out; have := HK5.out; omega
                  case rel => exact ⟨(wrap64 (x18_5 + 1)), (by first | rfl | (simp; done) | (simp [*]; done)), H', ⟨by have := HJ5.out; have := HK2.out; have := HJ16.out; have := HJ20.out; have := HK5.out; omega⟩, ⟨by (with_reducible repeat (first | apply Kd.R_alloc | apply Kd.R_drewN | apply Kd.R_drew)); exact HO_12.out⟩, ⟨by (with_reducible repeat (first | refine blk_drewN ?_ _ | refine blk_drew ?_ | refine blk_alloc ?_ _)); exact BK142.out⟩, ⟨by repeat (first | (with_reducible first | exact HB.out | apply below_alloc | apply pw_below_drewN | apply below_drew1 | refine below_set ?_ GE142.out) | exact HB.out)⟩⟩
                 ·rw [if_neg c35] at H
                  have c35b0 : decide (t144 < x15_2) = false := decide_eq_false c35
                  clear c35
                  have H' := Aside0.mk H
                  clear H
                  go_wp2_with (first | (go_at_call 25; (with_reducible refine (tripartiteref06_at.calls k5 _ _ l3 x18_5 t143 _ ?side1 ?side2 A32.out).mono ?_); (case side1 => repeat (first | exact (Kd.C_below HR3.out HB.out) | (with_reducible refine Kd.C_alloc ?_ _) | (with_reducible refine Kd.C_drewN ?_ _) | (with_reducible refine Kd.C_drew ?_))); (case side2 => exact HC3.out); rintro e w' ⟨rfl, ⟨nd, rfl⟩⟩; (try first | exact ⟨rfl, _, World.drewN_drewN _ _ _⟩ | exact ⟨rfl, _, Eq.trans (World.drewN_drewN _ _ _) (congrArg (World.drewN _) (Nat.add_assoc _ _ _))⟩)) | (go_at_call 25; (with_reducible refine (tripartiteref06_at.calls k5 _ _ l4 x18_5 t144 _ ?side1 ?side2 A34.out).mono ?_); (case side1 => repeat (first | exact (Kd.C_below HR4.out (by repeat (first | (with_reducible first | exact HB.out | apply below_alloc | apply pw_below_drewN | apply below_drew1 | refine below_set ?_ GE142.out) | exact HB.out))) | (with_reducible refine Kd.C_alloc ?_ _) | (with_reducible refine Kd.C_drewN ?_ _) | (with_reducible refine Kd.C_drew ?_))); (case side2 => exact HC4.out); rintro e w' ⟨rfl, ⟨nd, rfl⟩⟩; (try first | exact ⟨rfl, _, World.drewN_drewN _ _ _⟩ | exact ⟨rfl, _, Eq.trans (World.drewN_drewN _ _ _) (congrArg (World.drewN _) (Nat.add_assoc _ _ _))⟩)))
                  repeat (go_quiet (first | (go_at_call 25; (with_reducible refine (tripartiteref06_at.calls k5 _ _ l3 x18_5 t143 _ ?side1 ?side2 A32.out).mono ?_); (case side1 => repeat (first | exact (Kd.C_below HR3.out HB.out) | (with_reducible refine Kd.C_alloc ?_ _) | (with_reducible refine Kd.C_drewN ?_ _) | (with_reducible refine Kd.C_drew ?_))); (case side2 => exact HC3.out); rintro e w' ⟨rfl, ⟨nd, rfl⟩⟩; (try first | exact ⟨rfl, _, World.drewN_drewN _ _ _⟩ | exact ⟨rfl, _, Eq.trans (World.drewN_drewN _ _ _) (congrArg (World.drewN _) (Nat.add_assoc _ _ _))⟩)) | (go_at_call 25; (with_reducible refine (tripartiteref06_at.calls k5 _ _ l4 x18_5 t144 _ ?side1 ?side2 A34.out).mono ?_); (case side1 => repeat (first | exact (Kd.C_below HR4.out (by repeat (first | (with_reducible first | exact HB.out | apply below_alloc | apply pw_below_drewN | apply below_drew1 | refine below_set ?_ GE142.out) | exact HB.out))) | (with_reducible refine Kd.C_alloc ?_ _) | (with_reducible refine Kd.C_drewN ?_ _) | (with_reducible refine Kd.C_drew ?_))); (case side2 => exact HC4.out); rintro e w' ⟨rfl, ⟨nd, rfl⟩⟩; (try first | exact ⟨rfl, _, World.drewN_drewN _ _ _⟩ | exact ⟨rfl, _, Eq.trans (World.drewN_drewN _ _ _) (congrArg (World.drewN _) (Nat.add_assoc _ _ _))⟩))); try go_wp2_with (first | (go_at_call 25; (with_reducible refine (tripartiteref06_at.calls k5 _ _ l3 x18_5 t143 _ ?side1 ?side2 A32.out).mono ?_); (case side1 => repeat (first | exact (Kd.C_below HR3.out HB.out) | (with_reducible refine Kd.C_alloc ?_ _) | (with_reducible refine Kd.C_drewN ?_ _) | (with_reducible refine Kd.C_drew ?_))); (case side2 => exact HC3.out); rintro e w' ⟨rfl, ⟨nd, rfl⟩⟩; (try first | exact ⟨rfl, _, World.drewN_drewN _ _ _⟩ | exact ⟨rfl, _, Eq.trans (World.drewN_drewN _ _ _) (congrArg (World.drewN _) (Nat.add_assoc _ _ _))⟩)) | (go_at_call 25; (with_reducible refine (tripartiteref06_at.calls k5 _ _ l4 x18_5 t144 _ ?side1 ?side2 A34.out).mono ?_); (case side1 => repeat (first | exact (Kd.C_below HR4.out (by repeat (first | (with_reducible first | exact HB.out | apply below_alloc | apply pw_below_drewN | apply below_drew1 | refine below_set ?_ GE142.out) | exact HB.out))) | (with_reducible refine Kd.C_alloc ?_ _) | (with_reducible refine Kd.C_drewN ?_ _) | (with_reducible refine Kd.C_drew ?_))); (case side2 => exact HC4.out); rintro e w' ⟨rfl, ⟨nd, rfl⟩⟩; (try first | exact ⟨rfl, _, World.drewN_drewN _ _ _⟩ | exact ⟨rfl, _, Eq.trans (World.drewN_drewN _ _ _) (congrArg (World.drewN _) (Nat.add_assoc _ _ _))⟩))))
                  go_meet
                  case rel => exact ⟨_, (x18_5), (by first | rfl | (simp; done) | (simp [*]; done)), H', ⟨by have := HJ5.out; have := HK2.out; have := HJ16.out; have := HJ20.out; have := HK5.out; first | omega | exact Nat.le_refl _⟩, ⟨by (with_reducible repeat (first | apply Kd.R_alloc | apply Kd.R_drewN | apply Kd.R_drew)); exact HO_12.out⟩, ⟨by (with_reducible repeat (first | refine blk_drewN ?_ _ | refine blk_drew ?_ | refine blk_alloc ?_ _)); exact BK142.out⟩, ⟨by repeat (first | (with_reducible first | exact HB.out | apply below_alloc | apply pw_below_drewN | apply below_drew1 | refine below_set ?_ GE142.out) | exact HB.out)⟩⟩
               ·rw [if_neg c31] at H
                have c31b0 : decide (x18_5 < a0) = false := decide_eq_false c31
                clear c31
                (first | rw [c31b0] | (simp only [i64_w, i32_w]; rw [c31b0]) | skip)
                have H' := Aside0.mk H
                clear H
                go_wp2
                repeat (go_quiet (fail); try go_wp2)
                go_meet
                case rel => exact ⟨_, (x18_5), (by first | rfl | (simp; done) | (simp [*]; done)), H', ⟨by have := HJ5.out; have := HK2.out; have := HJ16.out; have := HJ20.out; have := HK5.out; first | omega | exact Nat.le_refl _⟩, ⟨by (with_reducible repeat (first | apply Kd.R_alloc | apply Kd.R_drewN | apply Kd.R_drew)); exact HO_12.out⟩, ⟨by (with_reducible repeat (first | refine blk_drewN ?_ _ | refine blk_drew ?_ | refine blk_alloc ?_ _)); exact BK142.out⟩, ⟨by repeat (first | (with_reducible first | exact HB.out | apply below_alloc | apply pw_below_drewN | apply below_drew1 | refine below_set ?_ GE142.out) | exact HB.out)⟩⟩
            case rest =>
             clear HC28
             try clear c1
             try clear c2
             try clear p2
             try clear c3
             try clear c4
             try clear p6
             try clear c7
             try clear c7b0
             try clear c8
             try clear c8b0
             try clear c9
             try clear c9b0
             try clear c11
             try clear c16
             try clear c18
             try clear c18b0
             try clear c19
             try clear c19b0
             try clear c20
             try clear c22
             try clear c22b0
             try clear c24
             try clear c24b0
             try clear c24b1
             try clear c26
             try clear c26b0
             try clear c26b1
             try clear c27
             try clear c27b0
             try clear c27b1
             try clear c31
             try clear c31b0
             try clear c33
             try clear c33b0
             try clear c35
             try clear c35b0
             try clear hcz30_0
             try clear hcz30_1
             try clear hcz30_2
             try clear hcz30_3
             try clear hcz30_4
             try clear hcz30_5
             try clear hcz30_6
             try clear hfz30_0
             try clear hfz30_1
             try clear hfz30_2
             try clear hfz30_3
             try clear hfz30_4
             try clear hfz30_5
             try clear hfz30_6
             try clear p2
             try clear p6
             obtain ⟨kq, x18_27, rfl, HA, HJ27, HO_12, BK142, HB⟩ := hcut
             cases kq with
             | zero => exact absurd HA.out (by simp [tripartiteref06_Of.j6])
             | succ kj27 =>
              have H := HA.out
              clear HA
              simp only [tripartiteref06_Of.j6] at H
              by_cases c36 : x18_27 < a0
              ·rw [if_pos c36] at H
               have c36b0 : decide (x18_27 < a0) = true := decide_eq_true c36
               clear c36
               replace H := Option.bind_eq_some_iff.mp H
               obtain ⟨t145, A370, H⟩ := H
               replace H : ((tripartiteref06_at.f kj27 l4 x18_27).bind fun t146 => (if x12_2.length < 2513169434916 then (tripartiteref06_Of.l0 kj27 a0 a1 a2 l3 l4 (x12_2 ++ [(⟨(decide (x16_20 > 0)), (⟨x13_2, x18_27⟩ : S41), (⟨x14_2, t145⟩ : S41), (⟨x15_2, t146⟩ : S41)⟩ : S43)]) x18_27 t145 t146) else (none))) = some (r1, r2) := H
               have A37 := Aside0.mk A370
               clear A370
               replace H := Option.bind_eq_some_iff.mp H
               obtain ⟨t146, A380, H⟩ := H
               replace H : (if x12_2.length < 2513169434916 then (tripartiteref06_Of.l0 kj27 a0 a1 a2 l3 l4 (x12_2 ++ [(⟨(decide (x16_20 > 0)), (⟨x13_2, x18_27⟩ : S41), (⟨x14_2, t145⟩ : S41), (⟨x15_2, t146⟩ : S41)⟩ : S43)]) x18_27 t145 t146) else (none)) = some (r1, r2) := H
               have A38 := Aside0.mk A380
               clear A380
               by_cases c39 : x12_2.length < 2513169434916
               ·rw [if_pos c39] at H
                have LMc39 := Aside0.mk c39
                clear c39
                obtain ⟨y147, hy147⟩ : ∃ y_ : List (S43), y_ = (x12_2 ++ [(⟨(decide (x16_20 > 0)), (⟨x13_2, x18_27⟩ : S41), (⟨x14_2, t145⟩ : S41), (⟨x15_2, t146⟩ : S41)⟩ : S43)]) := ⟨_, rfl⟩
                replace H : (tripartiteref06_Of.l0 kj27 a0 a1 a2 l3 l4 y147 x18_27 t145 t146) = some (r1, r2) := by first | (rw [hy147]; with_reducible exact H) | (have H2_ := (Option.bind_some _ _).symm.trans H; rw [hy147]; with_reducible exact H2_) | (have H2_ := (Option.bind_some _ _).symm.trans H; with_reducible exact H2_) | with_reducible exact H | (rw [hy147]; exact H) | exact H
                have Ny147 := Aside0.mk hy147
                clear hy147
                have H' := Aside0.mk H
                clear H
                have hcz40_0 : wc.cell? ⟨gb142, 0, none⟩ = some (.bool (decide (x16_20 > 0))) := (blk_cell BK142.out 0).trans rfl
                have hcz40_1 : wc.cell? ⟨gb142, 1, none⟩ = some (.int .i64 x13_2) := (blk_cell BK142.out 1).trans rfl
                have hcz40_2 : wc.cell? ⟨gb142, 2, none⟩ = some (.int .i64 (wrap64 (x13_2 + x16_20))) := (blk_cell BK142.out 2).trans rfl
                have hcz40_3 : wc.cell? ⟨gb142, 3, none⟩ = some (.int .i64 x14_2) := (blk_cell BK142.out 3).trans rfl
                have hcz40_4 : wc.cell? ⟨gb142, 4, none⟩ = some (.int .i64 (wrap64 (x14_2 + x16_20))) := (blk_cell BK142.out 4).trans rfl
                have hcz40_5 : wc.cell? ⟨gb142, 5, none⟩ = some (.int .i64 x15_2) := (blk_cell BK142.out 5).trans rfl
                have hcz40_6 : wc.cell? ⟨gb142, 6, none⟩ = some (.int .i64 (wrap64 (x15_2 + x16_20))) := (blk_cell BK142.out 6).trans rfl
                have hfz40_0 := blk_frozen BK142.out 0
                have hfz40_1 := blk_frozen BK142.out 1
                have hfz40_2 := blk_frozen BK142.out 2
                have hfz40_3 := blk_frozen BK142.out 3
                have hfz40_4 := blk_frozen BK142.out 4
                have hfz40_5 := blk_frozen BK142.out 5
                have hfz40_6 := blk_frozen BK142.out 6
                go_upto_region 15 with (fail)
                generalize hW : World.setCell _ _ _ = W21
                have n0_ : Aside0 (Kd.R k43 43 W21 w.heap.size (fun k_ => k_ ≠ gb142) u12 x12_2) := ⟨by rw [← hW]; exact (Kd.R_far (Kd.R_far (Kd.R_far HO_12.out (fun _ hk => hk) _) (fun _ hk => hk) _) (fun _ hk => hk) _)⟩
                have n1_ : Aside0 (W21.heap[gb142]? = some (.cells #[.bool (decide (x16_20 > 0)), .int .i64 x13_2, .int .i64 a0, .int .i64 x14_2, .int .i64 a1, .int .i64 x15_2, .int .i64 a2] 43 (0, 0))) := ⟨by rw [← hW]; refine blk_put (cs := #[.bool (decide (x16_20 > 0)), .int .i64 x13_2, .int .i64 a0, .int .i64 x14_2, .int .i64 a1, .int .i64 x15_2, .int .i64 (wrap64 (x15_2 + x16_20))]) ?_ 6 _ rfl; (with_reducible repeat (first | refine blk_drewN ?_ _ | refine blk_drew ?_ | refine blk_alloc ?_ _)); refine blk_put (cs := #[.bool (decide (x16_20 > 0)), .int .i64 x13_2, .int .i64 a0, .int .i64 x14_2, .int .i64 (wrap64 (x14_2 + x16_20)), .int .i64 x15_2, .int .i64 (wrap64 (x15_2 + x16_20))]) ?_ 4 _ rfl; (with_reducible repeat (first | refine blk_drewN ?_ _ | refine blk_drew ?_ | refine blk_alloc ?_ _)); refine blk_put (cs := #[.bool (decide (x16_20 > 0)), .int .i64 x13_2, .int .i64 (wrap64 (x13_2 + x16_20)), .int .i64 x14_2, .int .i64 (wrap64 (x14_2 + x16_20)), .int .i64 x15_2, .int .i64 (wrap64 (x15_2 + x16_20))]) ?_ 2 _ rfl; (with_reducible repeat (first | refine blk_drewN ?_ _ | refine blk_drew ?_ | refine blk_alloc ?_ _)); exact BK142.out⟩
                have n2_ : Aside0 (Below w.heap.size w W21) := ⟨by rw [← hW]; first | exact (below_set (below_set (below_set HB.out GE142.out) GE142.out) GE142.out) | exact (below_set (below_set (below_set (pw_below_drewN (pw_below_drewN HB.out _) _) GE142.out) GE142.out) GE142.out) | exact (below_set (below_set (below_set HB.out GE142.out) GE142.out) GE142.out)⟩
                clear hcz40_0 hfz40_0 hcz40_1 hfz40_1 hcz40_2 hfz40_2 hcz40_3 hfz40_3 hcz40_4 hfz40_4 hcz40_5 hfz40_5 hcz40_6 hfz40_6
                clear HO_12 BK142 HB hW
                have HO_12 := n0_
                have BK142 := n1_
                have HB := n2_
                clear n0_ n1_ n2_
                have hcz61_0 : W21.cell? ⟨gb142, 0, none⟩ = some (.bool (decide (x16_20 > 0))) := (blk_cell BK142.out 0).trans rfl
                have hcz61_1 : W21.cell? ⟨gb142, 1, none⟩ = some (.int .i64 x13_2) := (blk_cell BK142.out 1).trans rfl
                have hcz61_2 : W21.cell? ⟨gb142, 2, none⟩ = some (.int .i64 a0) := (blk_cell BK142.out 2).trans rfl
                have hcz61_3 : W21.cell? ⟨gb142, 3, none⟩ = some (.int .i64 x14_2) := (blk_cell BK142.out 3).trans rfl
                have hcz61_4 : W21.cell? ⟨gb142, 4, none⟩ = some (.int .i64 a1) := (blk_cell BK142.out 4).trans rfl
                have hcz61_5 : W21.cell? ⟨gb142, 5, none⟩ = some (.int .i64 x15_2) := (blk_cell BK142.out 5).trans rfl
                have hcz61_6 : W21.cell? ⟨gb142, 6, none⟩ = some (.int .i64 a2) := (blk_cell BK142.out 6).trans rfl
                have hfz61_0 := blk_frozen BK142.out 0
                have hfz61_1 := blk_frozen BK142.out 1
                have hfz61_2 := blk_frozen BK142.out 2
                have hfz61_3 := blk_frozen BK142.out 3
                have hfz61_4 := blk_frozen BK142.out 4
                have hfz61_5 := blk_frozen BK142.out 5
                have hfz61_6 := blk_frozen BK142.out 6
                go_upto_region 17 with (first | (go_at_call 25; (with_reducible refine (tripartiteref06_at.calls kj27 _ _ l3 x18_27 t145 _ ?side1 ?side2 A37.out).mono ?_); (case side1 => exact Kd.C_below HR3.out (by repeat (first | (with_reducible first | exact HB.out | apply below_alloc | apply pw_below_drewN | apply below_drew1 | refine below_set ?_ GE142.out) | exact HB.out))); (case side2 => exact HC3.out); rintro e w' ⟨rfl, ⟨nd, rfl⟩⟩; (try first | exact ⟨rfl, _, World.drewN_drewN _ _ _⟩ | exact ⟨rfl, _, Eq.trans (World.drewN_drewN _ _ _) (congrArg (World.drewN _) (Nat.add_assoc _ _ _))⟩)) | (go_at_call 25; (with_reducible refine (tripartiteref06_at.calls kj27 _ _ l4 x18_27 t146 _ ?side1 ?side2 A38.out).mono ?_); (case side1 => exact Kd.C_below HR4.out (by repeat (first | (with_reducible first | exact HB.out | apply below_alloc | apply pw_below_drewN | apply below_drew1 | refine below_set ?_ GE142.out) | exact HB.out))); (case side2 => exact HC4.out); rintro e w' ⟨rfl, ⟨nd, rfl⟩⟩; (try first | exact ⟨rfl, _, World.drewN_drewN _ _ _⟩ | exact ⟨rfl, _, Eq.trans (World.drewN_drewN _ _ _) (congrArg (World.drewN _) (Nat.add_assoc _ _ _))⟩)))
                generalize hW : World.setCell _ _ _ = W22
                have n0_ : Aside0 (Kd.R k43 43 W22 w.heap.size (fun k_ => k_ ≠ gb142) u12 x12_2) := ⟨by rw [← hW]; exact (Kd.R_far (Kd.R_far (Kd.R_far HO_12.out (fun _ hk => hk) _) (fun _ hk => hk) _) (fun _ hk => hk) _)⟩
                have n1_ : Aside0 (W22.heap[gb142]? = some (.cells #[.bool (decide (x16_20 > 0)), .int .i64 x13_2, .int .i64 x18_27, .int .i64 x14_2, .int .i64 t145, .int .i64 x15_2, .int .i64 t146] 43 (0, 0))) := ⟨by rw [← hW]; refine blk_put (cs := #[.bool (decide (x16_20 > 0)), .int .i64 x13_2, .int .i64 x18_27, .int .i64 x14_2, .int .i64 t145, .int .i64 x15_2, .int .i64 a2]) ?_ 6 _ rfl; (with_reducible repeat (first | refine blk_drewN ?_ _ | refine blk_drew ?_ | refine blk_alloc ?_ _)); refine blk_put (cs := #[.bool (decide (x16_20 > 0)), .int .i64 x13_2, .int .i64 x18_27, .int .i64 x14_2, .int .i64 a1, .int .i64 x15_2, .int .i64 a2]) ?_ 4 _ rfl; (with_reducible repeat (first | refine blk_drewN ?_ _ | refine blk_drew ?_ | refine blk_alloc ?_ _)); refine blk_put (cs := #[.bool (decide (x16_20 > 0)), .int .i64 x13_2, .int .i64 a0, .int .i64 x14_2, .int .i64 a1, .int .i64 x15_2, .int .i64 a2]) ?_ 2 _ rfl; (with_reducible repeat (first | refine blk_drewN ?_ _ | refine blk_drew ?_ | refine blk_alloc ?_ _)); exact BK142.out⟩
                have n2_ : Aside0 (Below w.heap.size w W22) := ⟨by rw [← hW]; first | exact (below_set (below_set (below_set (pw_below_drewN HB.out _) GE142.out) GE142.out) GE142.out) | exact (below_set (below_set (below_set (pw_below_drewN (pw_below_drewN HB.out _) _) GE142.out) GE142.out) GE142.out) | exact (below_set (below_set (below_set HB.out GE142.out) GE142.out) GE142.out)⟩
                clear hcz61_0 hfz61_0 hcz61_1 hfz61_1 hcz61_2 hfz61_2 hcz61_3 hfz61_3 hcz61_4 hfz61_4 hcz61_5 hfz61_5 hcz61_6 hfz61_6
                clear HO_12 BK142 HB hW
                have HO_12 := n0_
                have BK142 := n1_
                have HB := n2_
                clear n0_ n1_ n2_
                have hcz62_0 : W22.cell? ⟨gb142, 0, none⟩ = some (.bool (decide (x16_20 > 0))) := (blk_cell BK142.out 0).trans rfl
                have hcz62_1 : W22.cell? ⟨gb142, 1, none⟩ = some (.int .i64 x13_2) := (blk_cell BK142.out 1).trans rfl
                have hcz62_2 : W22.cell? ⟨gb142, 2, none⟩ = some (.int .i64 x18_27) := (blk_cell BK142.out 2).trans rfl
                have hcz62_3 : W22.cell? ⟨gb142, 3, none⟩ = some (.int .i64 x14_2) := (blk_cell BK142.out 3).trans rfl
                have hcz62_4 : W22.cell? ⟨gb142, 4, none⟩ = some (.int .i64 t145) := (blk_cell BK142.out 4).trans rfl
                have hcz62_5 : W22.cell? ⟨gb142, 5, none⟩ = some (.int .i64 x15_2) := (blk_cell BK142.out 5).trans rfl
                have hcz62_6 : W22.cell? ⟨gb142, 6, none⟩ = some (.int .i64 t146) := (blk_cell BK142.out 6).trans rfl
                have hfz62_0 := blk_frozen BK142.out 0
                have hfz62_1 := blk_frozen BK142.out 1
                have hfz62_2 := blk_frozen BK142.out 2
                have hfz62_3 := blk_frozen BK142.out 3
                have hfz62_4 := blk_frozen BK142.out 4
                have hfz62_5 := blk_frozen BK142.out 5
                have hfz62_6 := blk_frozen BK142.out 6
                go_wp2_with (first | ((with_reducible refine gate_builtin (b := .append) (xs := #[.tmp 150, .tmp 152]) rfl ?_); at_builtin; refine Kd.R_append k43 (w0 := w) w.heap.size rfl (.tmp 150) (.tmp 152) 31 43 (.agg #[(.bool false), (.int .i64 0), (.int .i64 0), (.int .i64 0), (.int .i64 0), (.int .i64 0), (.int .i64 0)]) 56 rfl Try.underlying31 info43 rfl (by decide) (by omega) u12 x12_2 (⟨(decide (x16_20 > 0)), (⟨x13_2, x18_27⟩ : S41), (⟨x14_2, t145⟩ : S41), (⟨x15_2, t146⟩ : S41)⟩ : S43) [.bool (decide (x16_20 > 0)), .int .i64 x13_2, .int .i64 x18_27, .int .i64 x14_2, .int .i64 t145, .int .i64 x15_2, .int .i64 t146] (fun k_ => k_ ≠ gb142) (fun _ => False) rfl (by first | (go_simp; done) | (go_simp; rfl)) ?aP (fun _ hk => hk.elim) ?aF ?aO ?aB ?aS ?aL ?_; (case aP => exact k43_mkM _ _ _ (⟨(decide (x16_20 > 0)), (⟨x13_2, x18_27⟩ : S41), (⟨x14_2, t145⟩ : S41), (⟨x15_2, t146⟩ : S41)⟩ : S43)); (case aB => exact (by repeat (first | (with_reducible first | exact HB.out | apply below_alloc | apply pw_below_drewN | apply below_drew1 | refine below_set ?_ GE142.out) | exact HB.out))); (case aF => exact (fun k_ hk => Kd.freshB (g := gb142) (o := .cells #[.bool (decide (x16_20 > 0)), .int .i64 x13_2, .int .i64 x18_27, .int .i64 x14_2, .int .i64 t145, .int .i64 x15_2, .int .i64 t146] 43 (0, 0)) (by (with_reducible repeat (first | refine blk_drewN ?_ _ | refine blk_drew ?_ | refine blk_alloc ?_ _)); exact BK142.out) k_ hk)); (case aO => exact (by (with_reducible repeat (first | apply Kd.R_alloc | apply Kd.R_drewN | apply Kd.R_drew)); exact HO_12.out)); (case aS => exact (below_size (by repeat (first | (with_reducible first | exact HB.out | apply below_alloc | apply pw_below_drewN | apply below_drew1 | refine below_set ?_ GE142.out) | exact HB.out)))); (case aL => have := LMc39.out; omega); intro v148 w41 ho hb hg hat; rw [← Ny147.out] at ho; have n0_ := Aside0.mk (blk_grown (g := gb142) (o := .cells #[.bool (decide (x16_20 > 0)), .int .i64 x13_2, .int .i64 x18_27, .int .i64 x14_2, .int .i64 t145, .int .i64 x15_2, .int .i64 t146] 43 (0, 0)) (by (with_reducible repeat (first | refine blk_drewN ?_ _ | refine blk_drew ?_ | refine blk_alloc ?_ _)); exact BK142.out) hg (Kd.R_away HO_12.out (fun _ hk => hk))); have n1_ := Aside0.mk (hb); have n2_ := Aside0.mk (ho); clear BK142; clear HB; clear HO_12; have BK142 := n0_; have HB := n1_; have HO149 := n2_; clear n0_ n1_ n2_; clear ho hb hg hat; have hcz70_0 : w41.cell? ⟨gb142, 0, none⟩ = some (.bool (decide (x16_20 > 0))) := (blk_cell BK142.out 0).trans rfl; have hcz70_1 : w41.cell? ⟨gb142, 1, none⟩ = some (.int .i64 x13_2) := (blk_cell BK142.out 1).trans rfl; have hcz70_2 : w41.cell? ⟨gb142, 2, none⟩ = some (.int .i64 x18_27) := (blk_cell BK142.out 2).trans rfl; have hcz70_3 : w41.cell? ⟨gb142, 3, none⟩ = some (.int .i64 x14_2) := (blk_cell BK142.out 3).trans rfl; have hcz70_4 : w41.cell? ⟨gb142, 4, none⟩ = some (.int .i64 t145) := (blk_cell BK142.out 4).trans rfl; have hcz70_5 : w41.cell? ⟨gb142, 5, none⟩ = some (.int .i64 x15_2) := (blk_cell BK142.out 5).trans rfl; have hcz70_6 : w41.cell? ⟨gb142, 6, none⟩ = some (.int .i64 t146) := (blk_cell BK142.out 6).trans rfl; have hfz70_0 := blk_frozen BK142.out 0; have hfz70_1 := blk_frozen BK142.out 1; have hfz70_2 := blk_frozen BK142.out 2; have hfz70_3 := blk_frozen BK142.out 3; have hfz70_4 := blk_frozen BK142.out 4; have hfz70_5 := blk_frozen BK142.out 5; have hfz70_6 := blk_frozen BK142.out 6))
                repeat (go_quiet (fail); try go_wp2)
                go_roundg kj27
                case measure => have := HJ5.out; have := HK2.out; have := HJ16.out; have := HJ20.out; have := HJ27.out; omega
                case rel => exact ⟨(y147), (x18_27), (t145), (t146), (by first | rfl | (simp; done) | (simp [*]; done)), (by first | rfl | (simp; done) | (simp [*]; done)), (by first | rfl | (simp; done) | (simp [*]; done)), H', ⟨by have := HJ5.out; have := HK2.out; have := HJ16.out; have := HJ20.out; have := HJ27.out; omega⟩, ⟨by (with_reducible repeat (first | apply Kd.R_alloc | apply Kd.R_drewN | apply Kd.R_drew)); exact Kd.R_mono HO149.out (fun _ hk => trivial)⟩, ⟨by repeat (first | (with_reducible first | exact HB.out | apply below_alloc | apply pw_below_drewN | apply below_drew1 | refine below_set ?_ GE142.out) | exact HB.out)⟩⟩
               ·rw [if_neg c39] at H
                exact absurd H (by simp)
              ·rw [if_neg c36] at H
               have c36b0 : decide (x18_27 < a0) = false := decide_eq_false c36
               clear c36
               by_cases c43 : x12_2.length < 2513169434916
               ·rw [if_pos c43] at H
                have LMc43 := Aside0.mk c43
                clear c43
                obtain ⟨y150, hy150⟩ : ∃ y_ : List (S43), y_ = (x12_2 ++ [(⟨(decide (x16_20 > 0)), (⟨x13_2, a0⟩ : S41), (⟨x14_2, a1⟩ : S41), (⟨x15_2, a2⟩ : S41)⟩ : S43)]) := ⟨_, rfl⟩
                replace H : (tripartiteref06_Of.l0 kj27 a0 a1 a2 l3 l4 y150 a0 a1 a2) = some (r1, r2) := by first | (rw [hy150]; with_reducible exact H) | (have H2_ := (Option.bind_some _ _).symm.trans H; rw [hy150]; with_reducible exact H2_) | (have H2_ := (Option.bind_some _ _).symm.trans H; with_reducible exact H2_) | with_reducible exact H | (rw [hy150]; exact H) | exact H
                have Ny150 := Aside0.mk hy150
                clear hy150
                have H' := Aside0.mk H
                clear H
                have hcz44_0 : wc.cell? ⟨gb142, 0, none⟩ = some (.bool (decide (x16_20 > 0))) := (blk_cell BK142.out 0).trans rfl
                have hcz44_1 : wc.cell? ⟨gb142, 1, none⟩ = some (.int .i64 x13_2) := (blk_cell BK142.out 1).trans rfl
                have hcz44_2 : wc.cell? ⟨gb142, 2, none⟩ = some (.int .i64 (wrap64 (x13_2 + x16_20))) := (blk_cell BK142.out 2).trans rfl
                have hcz44_3 : wc.cell? ⟨gb142, 3, none⟩ = some (.int .i64 x14_2) := (blk_cell BK142.out 3).trans rfl
                have hcz44_4 : wc.cell? ⟨gb142, 4, none⟩ = some (.int .i64 (wrap64 (x14_2 + x16_20))) := (blk_cell BK142.out 4).trans rfl
                have hcz44_5 : wc.cell? ⟨gb142, 5, none⟩ = some (.int .i64 x15_2) := (blk_cell BK142.out 5).trans rfl
                have hcz44_6 : wc.cell? ⟨gb142, 6, none⟩ = some (.int .i64 (wrap64 (x15_2 + x16_20))) := (blk_cell BK142.out 6).trans rfl
                have hfz44_0 := blk_frozen BK142.out 0
                have hfz44_1 := blk_frozen BK142.out 1
                have hfz44_2 := blk_frozen BK142.out 2
                have hfz44_3 := blk_frozen BK142.out 3
                have hfz44_4 := blk_frozen BK142.out 4
                have hfz44_5 := blk_frozen BK142.out 5
                have hfz44_6 := blk_frozen BK142.out 6
                go_upto_region 15 with (fail)
                generalize hW : World.setCell _ _ _ = W21
                have n0_ : Aside0 (Kd.R k43 43 W21 w.heap.size (fun k_ => k_ ≠ gb142) u12 x12_2) := ⟨by rw [← hW]; exact (Kd.R_far (Kd.R_far (Kd.R_far HO_12.out (fun _ hk => hk) _) (fun _ hk => hk) _) (fun _ hk => hk) _)⟩
                have n1_ : Aside0 (W21.heap[gb142]? = some (.cells #[.bool (decide (x16_20 > 0)), .int .i64 x13_2, .int .i64 a0, .int .i64 x14_2, .int .i64 a1, .int .i64 x15_2, .int .i64 a2] 43 (0, 0))) := ⟨by rw [← hW]; refine blk_put (cs := #[.bool (decide (x16_20 > 0)), .int .i64 x13_2, .int .i64 a0, .int .i64 x14_2, .int .i64 a1, .int .i64 x15_2, .int .i64 (wrap64 (x15_2 + x16_20))]) ?_ 6 _ rfl; (with_reducible repeat (first | refine blk_drewN ?_ _ | refine blk_drew ?_ | refine blk_alloc ?_ _)); refine blk_put (cs := #[.bool (decide (x16_20 > 0)), .int .i64 x13_2, .int .i64 a0, .int .i64 x14_2, .int .i64 (wrap64 (x14_2 + x16_20)), .int .i64 x15_2, .int .i64 (wrap64 (x15_2 + x16_20))]) ?_ 4 _ rfl; (with_reducible repeat (first | refine blk_drewN ?_ _ | refine blk_drew ?_ | refine blk_alloc ?_ _)); refine blk_put (cs := #[.bool (decide (x16_20 > 0)), .int .i64 x13_2, .int .i64 (wrap64 (x13_2 + x16_20)), .int .i64 x14_2, .int .i64 (wrap64 (x14_2 + x16_20)), .int .i64 x15_2, .int .i64 (wrap64 (x15_2 + x16_20))]) ?_ 2 _ rfl; (with_reducible repeat (first | refine blk_drewN ?_ _ | refine blk_drew ?_ | refine blk_alloc ?_ _)); exact BK142.out⟩
                have n2_ : Aside0 (Below w.heap.size w W21) := ⟨by rw [← hW]; first | exact (below_set (below_set (below_set HB.out GE142.out) GE142.out) GE142.out) | exact (below_set (below_set (below_set (pw_below_drewN (pw_below_drewN HB.out _) _) GE142.out) GE142.out) GE142.out) | exact (below_set (below_set (below_set HB.out GE142.out) GE142.out) GE142.out)⟩
                clear hcz44_0 hfz44_0 hcz44_1 hfz44_1 hcz44_2 hfz44_2 hcz44_3 hfz44_3 hcz44_4 hfz44_4 hcz44_5 hfz44_5 hcz44_6 hfz44_6
                clear HO_12 BK142 HB hW
                have HO_12 := n0_
                have BK142 := n1_
                have HB := n2_
                clear n0_ n1_ n2_
                have hcz61_0 : W21.cell? ⟨gb142, 0, none⟩ = some (.bool (decide (x16_20 > 0))) := (blk_cell BK142.out 0).trans rfl
                have hcz61_1 : W21.cell? ⟨gb142, 1, none⟩ = some (.int .i64 x13_2) := (blk_cell BK142.out 1).trans rfl
                have hcz61_2 : W21.cell? ⟨gb142, 2, none⟩ = some (.int .i64 a0) := (blk_cell BK142.out 2).trans rfl
                have hcz61_3 : W21.cell? ⟨gb142, 3, none⟩ = some (.int .i64 x14_2) := (blk_cell BK142.out 3).trans rfl
                have hcz61_4 : W21.cell? ⟨gb142, 4, none⟩ = some (.int .i64 a1) := (blk_cell BK142.out 4).trans rfl
                have hcz61_5 : W21.cell? ⟨gb142, 5, none⟩ = some (.int .i64 x15_2) := (blk_cell BK142.out 5).trans rfl
                have hcz61_6 : W21.cell? ⟨gb142, 6, none⟩ = some (.int .i64 a2) := (blk_cell BK142.out 6).trans rfl
                have hfz61_0 := blk_frozen BK142.out 0
                have hfz61_1 := blk_frozen BK142.out 1
                have hfz61_2 := blk_frozen BK142.out 2
                have hfz61_3 := blk_frozen BK142.out 3
                have hfz61_4 := blk_frozen BK142.out 4
                have hfz61_5 := blk_frozen BK142.out 5
                have hfz61_6 := blk_frozen BK142.out 6
                go_wp2_with (first | ((with_reducible refine gate_builtin (b := .append) (xs := #[.tmp 150, .tmp 152]) rfl ?_); at_builtin; refine Kd.R_append k43 (w0 := w) w.heap.size rfl (.tmp 150) (.tmp 152) 31 43 (.agg #[(.bool false), (.int .i64 0), (.int .i64 0), (.int .i64 0), (.int .i64 0), (.int .i64 0), (.int .i64 0)]) 56 rfl Try.underlying31 info43 rfl (by decide) (by omega) u12 x12_2 (⟨(decide (x16_20 > 0)), (⟨x13_2, a0⟩ : S41), (⟨x14_2, a1⟩ : S41), (⟨x15_2, a2⟩ : S41)⟩ : S43) [.bool (decide (x16_20 > 0)), .int .i64 x13_2, .int .i64 a0, .int .i64 x14_2, .int .i64 a1, .int .i64 x15_2, .int .i64 a2] (fun k_ => k_ ≠ gb142) (fun _ => False) rfl (by first | (go_simp; done) | (go_simp; rfl)) ?aP (fun _ hk => hk.elim) ?aF ?aO ?aB ?aS ?aL ?_; (case aP => exact k43_mkM _ _ _ (⟨(decide (x16_20 > 0)), (⟨x13_2, a0⟩ : S41), (⟨x14_2, a1⟩ : S41), (⟨x15_2, a2⟩ : S41)⟩ : S43)); (case aB => exact (by repeat (first | (with_reducible first | exact HB.out | apply below_alloc | apply pw_below_drewN | apply below_drew1 | refine below_set ?_ GE142.out) | exact HB.out))); (case aF => exact (fun k_ hk => Kd.freshB (g := gb142) (o := .cells #[.bool (decide (x16_20 > 0)), .int .i64 x13_2, .int .i64 a0, .int .i64 x14_2, .int .i64 a1, .int .i64 x15_2, .int .i64 a2] 43 (0, 0)) (by (with_reducible repeat (first | refine blk_drewN ?_ _ | refine blk_drew ?_ | refine blk_alloc ?_ _)); exact BK142.out) k_ hk)); (case aO => exact (by (with_reducible repeat (first | apply Kd.R_alloc | apply Kd.R_drewN | apply Kd.R_drew)); exact HO_12.out)); (case aS => exact (below_size (by repeat (first | (with_reducible first | exact HB.out | apply below_alloc | apply pw_below_drewN | apply below_drew1 | refine below_set ?_ GE142.out) | exact HB.out)))); (case aL => have := LMc43.out; omega); intro v151 w45 ho hb hg hat; rw [← Ny150.out] at ho; have n0_ := Aside0.mk (blk_grown (g := gb142) (o := .cells #[.bool (decide (x16_20 > 0)), .int .i64 x13_2, .int .i64 a0, .int .i64 x14_2, .int .i64 a1, .int .i64 x15_2, .int .i64 a2] 43 (0, 0)) (by (with_reducible repeat (first | refine blk_drewN ?_ _ | refine blk_drew ?_ | refine blk_alloc ?_ _)); exact BK142.out) hg (Kd.R_away HO_12.out (fun _ hk => hk))); have n1_ := Aside0.mk (hb); have n2_ := Aside0.mk (ho); clear BK142; clear HB; clear HO_12; have BK142 := n0_; have HB := n1_; have HO152 := n2_; clear n0_ n1_ n2_; clear ho hb hg hat; have hcz71_0 : w45.cell? ⟨gb142, 0, none⟩ = some (.bool (decide (x16_20 > 0))) := (blk_cell BK142.out 0).trans rfl; have hcz71_1 : w45.cell? ⟨gb142, 1, none⟩ = some (.int .i64 x13_2) := (blk_cell BK142.out 1).trans rfl; have hcz71_2 : w45.cell? ⟨gb142, 2, none⟩ = some (.int .i64 a0) := (blk_cell BK142.out 2).trans rfl; have hcz71_3 : w45.cell? ⟨gb142, 3, none⟩ = some (.int .i64 x14_2) := (blk_cell BK142.out 3).trans rfl; have hcz71_4 : w45.cell? ⟨gb142, 4, none⟩ = some (.int .i64 a1) := (blk_cell BK142.out 4).trans rfl; have hcz71_5 : w45.cell? ⟨gb142, 5, none⟩ = some (.int .i64 x15_2) := (blk_cell BK142.out 5).trans rfl; have hcz71_6 : w45.cell? ⟨gb142, 6, none⟩ = some (.int .i64 a2) := (blk_cell BK142.out 6).trans rfl; have hfz71_0 := blk_frozen BK142.out 0; have hfz71_1 := blk_frozen BK142.out 1; have hfz71_2 := blk_frozen BK142.out 2; have hfz71_3 := blk_frozen BK142.out 3; have hfz71_4 := blk_frozen BK142.out 4; have hfz71_5 := blk_frozen BK142.out 5; have hfz71_6 := blk_frozen BK142.out 6))
                repeat (go_quiet (fail); try go_wp2)
                go_roundg kj27
                case measure => have := HJ5.out; have := HK2.out; have := HJ16.out; have := HJ20.out; have := HJ27.out; omega
                case rel => exact ⟨(y150), (a0), (a1), (a2), (by first | rfl | (simp; done) | (simp [*]; done)), (by first | rfl | (simp; done) | (simp [*]; done)), (by first | rfl | (simp; done) | (simp [*]; done)), H', ⟨by have := HJ5.out; have := HK2.out; have := HJ16.out; have := HJ20.out; have := HJ27.out; omega⟩, ⟨by (with_reducible repeat (first | apply Kd.R_alloc | apply Kd.R_drewN | apply Kd.R_drew)); exact Kd.R_mono HO152.out (fun _ hk => trivial)⟩, ⟨by repeat (first | (with_reducible first | exact HB.out | apply below_alloc | apply pw_below_drewN | apply below_drew1 | refine below_set ?_ GE142.out) | exact HB.out)⟩⟩
               ·rw [if_neg c43] at H
                exact absurd H (by simp)
           ·rw [if_neg c27] at H
            have c27b0 : (x16_20 == 0) = false := beq_eq_false_iff_ne.mpr c27
            have c27b1 : (x16_20 != 0) = true := bne_iff_ne.mpr c27
            by_cases c47 : x12_2.length < 2513169434916
            ·rw [if_pos c47] at H
             have LMc47 := Aside0.mk c47
             clear c47
             obtain ⟨y153, hy153⟩ : ∃ y_ : List (S43), y_ = (x12_2 ++ [(⟨decide (x16_20 > 0), (⟨x13_2, wrap64 (x13_2 + x16_20)⟩ : S41), (⟨x14_2, wrap64 (x14_2 + x16_20)⟩ : S41), (⟨x15_2, wrap64 (x15_2 + x16_20)⟩ : S41)⟩ : S43)]) := ⟨_, rfl⟩
             replace H : (tripartiteref06_Of.l0 kj20 a0 a1 a2 l3 l4 y153 (wrap64 (x13_2 + x16_20)) (wrap64 (x14_2 + x16_20)) (wrap64 (x15_2 + x16_20))) = some (r1, r2) := by first | (rw [hy153]; with_reducible exact H) | (have H2_ := (Option.bind_some _ _).symm.trans H; rw [hy153]; with_reducible exact H2_) | (have H2_ := (Option.bind_some _ _).symm.trans H; with_reducible exact H2_) | with_reducible exact H | (rw [hy153]; exact H) | exact H
             have Ny153 := Aside0.mk hy153
             clear hy153
             have H' := Aside0.mk H
             clear H
             go_upto_region 10 with (first | ((with_reducible refine gate_dst (N := 17) rfl ?_); refine box_event ?hg (N := 17) ?hd (cs := #[.bool false, .int .i64 0, .int .i64 0, .int .i64 0, .int .i64 0, .int .i64 0, .int .i64 0]) (t := 43) ?hr ?_; (case hd => rfl); (case hg => rfl); (case hr => first | (go_simp; done) | (go_simp; rfl)); intro gb142 hg w48 hbox hb; have n0_ := Aside0.mk (Kd.R_below (Kd.R_elderB (by (with_reducible repeat (first | apply Kd.R_alloc | apply Kd.R_drewN | apply Kd.R_drew)); exact HO_12.out) gb142 (Nat.le_of_eq hg.symm)) hb); have n1_ := Aside0.mk (below_step (by repeat (first | (with_reducible first | exact HB.out | apply below_alloc | apply pw_below_drewN | apply below_drew1) | exact HB.out)) hb); have n2_ := Aside0.mk (hbox); have n3_ := Aside0.mk ((by rw [hg]; exact (below_size (by repeat (first | (with_reducible first | exact HB.out | apply below_alloc | apply pw_below_drewN | apply below_drew1) | exact HB.out))) : w.heap.size ≤ gb142)); have n4_ := Aside0.mk ((by rw [hg]; exact (below_size (by repeat (first | (with_reducible first | exact HB.out | apply below_alloc | apply pw_below_drewN | apply below_drew1) | exact HB.out))) : w.heap.size ≤ gb142)); clear HO_12; clear HB; have HO_12 := n0_; have HB := n1_; have BK142 := n2_; have GW142 := n3_; have GE142 := n4_; clear n0_ n1_ n2_ n3_ n4_; clear hb hbox hg; have hcz49_0 : w48.cell? ⟨gb142, 0, none⟩ = some (.bool false) := (blk_cell BK142.out 0).trans rfl; have hcz49_1 : w48.cell? ⟨gb142, 1, none⟩ = some (.int .i64 0) := (blk_cell BK142.out 1).trans rfl; have hcz49_2 : w48.cell? ⟨gb142, 2, none⟩ = some (.int .i64 0) := (blk_cell BK142.out 2).trans rfl; have hcz49_3 : w48.cell? ⟨gb142, 3, none⟩ = some (.int .i64 0) := (blk_cell BK142.out 3).trans rfl; have hcz49_4 : w48.cell? ⟨gb142, 4, none⟩ = some (.int .i64 0) := (blk_cell BK142.out 4).trans rfl; have hcz49_5 : w48.cell? ⟨gb142, 5, none⟩ = some (.int .i64 0) := (blk_cell BK142.out 5).trans rfl; have hcz49_6 : w48.cell? ⟨gb142, 6, none⟩ = some (.int .i64 0) := (blk_cell BK142.out 6).trans rfl; have hfz49_0 := blk_frozen BK142.out 0; have hfz49_1 := blk_frozen BK142.out 1; have hfz49_2 := blk_frozen BK142.out 2; have hfz49_3 := blk_frozen BK142.out 3; have hfz49_4 := blk_frozen BK142.out 4; have hfz49_5 := blk_frozen BK142.out 5; have hfz49_6 := blk_frozen BK142.out 6))
             generalize hW : World.setCell _ _ _ = W23
             have n0_ : Aside0 (Kd.R k43 43 W23 w.heap.size (fun k_ => k_ ≠ gb142) u12 x12_2) := ⟨by rw [← hW]; exact (Kd.R_mono (Kd.R_far (Kd.R_far (Kd.R_far (Kd.R_far (Kd.R_far (Kd.R_far (Kd.R_far HO_12.out (fun _ hk => hk.2) _) (fun _ hk => hk.2) _) (fun _ hk => hk.2) _) (fun _ hk => hk.2) _) (fun _ hk => hk.2) _) (fun _ hk => hk.2) _) (fun _ hk => hk.2) _) (fun _ hk => hk.2))⟩
             have n1_ : Aside0 (W23.heap[gb142]? = some (.cells #[.bool (decide (x16_20 > 0)), .int .i64 x13_2, .int .i64 (wrap64 (x13_2 + x16_20)), .int .i64 x14_2, .int .i64 (wrap64 (x14_2 + x16_20)), .int .i64 x15_2, .int .i64 (wrap64 (x15_2 + x16_20))] 43 (0, 0))) := ⟨by rw [← hW]; refine blk_put (cs := #[.bool (decide (x16_20 > 0)), .int .i64 x13_2, .int .i64 (wrap64 (x13_2 + x16_20)), .int .i64 x14_2, .int .i64 (wrap64 (x14_2 + x16_20)), .int .i64 x15_2, .int .i64 0]) ?_ 6 _ rfl; (with_reducible repeat (first | refine blk_drewN ?_ _ | refine blk_drew ?_ | refine blk_alloc ?_ _)); refine blk_put (cs := #[.bool (decide (x16_20 > 0)), .int .i64 x13_2, .int .i64 (wrap64 (x13_2 + x16_20)), .int .i64 x14_2, .int .i64 (wrap64 (x14_2 + x16_20)), .int .i64 0, .int .i64 0]) ?_ 5 _ rfl; (with_reducible repeat (first | refine blk_drewN ?_ _ | refine blk_drew ?_ | refine blk_alloc ?_ _)); refine blk_put (cs := #[.bool (decide (x16_20 > 0)), .int .i64 x13_2, .int .i64 (wrap64 (x13_2 + x16_20)), .int .i64 x14_2, .int .i64 0, .int .i64 0, .int .i64 0]) ?_ 4 _ rfl; (with_reducible repeat (first | refine blk_drewN ?_ _ | refine blk_drew ?_ | refine blk_alloc ?_ _)); refine blk_put (cs := #[.bool (decide (x16_20 > 0)), .int .i64 x13_2, .int .i64 (wrap64 (x13_2 + x16_20)), .int .i64 0, .int .i64 0, .int .i64 0, .int .i64 0]) ?_ 3 _ rfl; (with_reducible repeat (first | refine blk_drewN ?_ _ | refine blk_drew ?_ | refine blk_alloc ?_ _)); refine blk_put (cs := #[.bool (decide (x16_20 > 0)), .int .i64 x13_2, .int .i64 0, .int .i64 0, .int .i64 0, .int .i64 0, .int .i64 0]) ?_ 2 _ rfl; (with_reducible repeat (first | refine blk_drewN ?_ _ | refine blk_drew ?_ | refine blk_alloc ?_ _)); refine blk_put (cs := #[.bool (decide (x16_20 > 0)), .int .i64 0, .int .i64 0, .int .i64 0, .int .i64 0, .int .i64 0, .int .i64 0]) ?_ 1 _ rfl; (with_reducible repeat (first | refine blk_drewN ?_ _ | refine blk_drew ?_ | refine blk_alloc ?_ _)); refine blk_put (cs := #[.bool false, .int .i64 0, .int .i64 0, .int .i64 0, .int .i64 0, .int .i64 0, .int .i64 0]) ?_ 0 _ rfl; (with_reducible repeat (first | refine blk_drewN ?_ _ | refine blk_drew ?_ | refine blk_alloc ?_ _)); exact BK142.out⟩
             have n2_ : Aside0 (Below w.heap.size w W23) := ⟨by rw [← hW]; first | exact (below_set (below_set (below_set (below_set (below_set (below_set (below_set HB.out GE142.out) GE142.out) GE142.out) GE142.out) GE142.out) GE142.out) GE142.out) | exact (below_set (below_set (below_set (below_set (below_set (below_set (below_set (pw_below_drewN (pw_below_drewN HB.out _) _) GE142.out) GE142.out) GE142.out) GE142.out) GE142.out) GE142.out) GE142.out) | exact (below_set (below_set (below_set (below_set (below_set (below_set (below_set HB.out GE142.out) GE142.out) GE142.out) GE142.out) GE142.out) GE142.out) GE142.out)⟩
             clear hcz49_0 hfz49_0 hcz49_1 hfz49_1 hcz49_2 hfz49_2 hcz49_3 hfz49_3 hcz49_4 hfz49_4 hcz49_5 hfz49_5 hcz49_6 hfz49_6
             clear HO_12 BK142 HB hW
             have HO_12 := n0_
             have BK142 := n1_
             have HB := n2_
             clear n0_ n1_ n2_
             have hcz63_0 : W23.cell? ⟨gb142, 0, none⟩ = some (.bool (decide (x16_20 > 0))) := (blk_cell BK142.out 0).trans rfl
             have hcz63_1 : W23.cell? ⟨gb142, 1, none⟩ = some (.int .i64 x13_2) := (blk_cell BK142.out 1).trans rfl
             have hcz63_2 : W23.cell? ⟨gb142, 2, none⟩ = some (.int .i64 (wrap64 (x13_2 + x16_20))) := (blk_cell BK142.out 2).trans rfl
             have hcz63_3 : W23.cell? ⟨gb142, 3, none⟩ = some (.int .i64 x14_2) := (blk_cell BK142.out 3).trans rfl
             have hcz63_4 : W23.cell? ⟨gb142, 4, none⟩ = some (.int .i64 (wrap64 (x14_2 + x16_20))) := (blk_cell BK142.out 4).trans rfl
             have hcz63_5 : W23.cell? ⟨gb142, 5, none⟩ = some (.int .i64 x15_2) := (blk_cell BK142.out 5).trans rfl
             have hcz63_6 : W23.cell? ⟨gb142, 6, none⟩ = some (.int .i64 (wrap64 (x15_2 + x16_20))) := (blk_cell BK142.out 6).trans rfl
             have hfz63_0 := blk_frozen BK142.out 0
             have hfz63_1 := blk_frozen BK142.out 1
             have hfz63_2 := blk_frozen BK142.out 2
             have hfz63_3 := blk_frozen BK142.out 3
             have hfz63_4 := blk_frozen BK142.out 4
             have hfz63_5 := blk_frozen BK142.out 5
             have hfz63_6 := blk_frozen BK142.out 6
             go_wp2_with (first | ((with_reducible refine gate_builtin (b := .append) (xs := #[.tmp 150, .tmp 152]) rfl ?_); at_builtin; refine Kd.R_append k43 (w0 := w) w.heap.size rfl (.tmp 150) (.tmp 152) 31 43 (.agg #[(.bool false), (.int .i64 0), (.int .i64 0), (.int .i64 0), (.int .i64 0), (.int .i64 0), (.int .i64 0)]) 56 rfl Try.underlying31 info43 rfl (by decide) (by omega) u12 x12_2 (⟨decide (x16_20 > 0), (⟨x13_2, wrap64 (x13_2 + x16_20)⟩ : S41), (⟨x14_2, wrap64 (x14_2 + x16_20)⟩ : S41), (⟨x15_2, wrap64 (x15_2 + x16_20)⟩ : S41)⟩ : S43) [.bool (decide (x16_20 > 0)), .int .i64 x13_2, .int .i64 (wrap64 (x13_2 + x16_20)), .int .i64 x14_2, .int .i64 (wrap64 (x14_2 + x16_20)), .int .i64 x15_2, .int .i64 (wrap64 (x15_2 + x16_20))] (fun k_ => k_ ≠ gb142) (fun _ => False) rfl (by first | (go_simp; done) | (go_simp; rfl)) ?aP (fun _ hk => hk.elim) ?aF ?aO ?aB ?aS ?aL ?_; (case aP => exact k43_mkM _ _ _ (⟨decide (x16_20 > 0), (⟨x13_2, wrap64 (x13_2 + x16_20)⟩ : S41), (⟨x14_2, wrap64 (x14_2 + x16_20)⟩ : S41), (⟨x15_2, wrap64 (x15_2 + x16_20)⟩ : S41)⟩ : S43)); (case aB => exact (by repeat (first | (with_reducible first | exact HB.out | apply below_alloc | apply pw_below_drewN | apply below_drew1 | refine below_set ?_ GE142.out) | exact HB.out))); (case aF => exact (fun k_ hk => Kd.freshB (g := gb142) (o := .cells #[.bool (decide (x16_20 > 0)), .int .i64 x13_2, .int .i64 (wrap64 (x13_2 + x16_20)), .int .i64 x14_2, .int .i64 (wrap64 (x14_2 + x16_20)), .int .i64 x15_2, .int .i64 (wrap64 (x15_2 + x16_20))] 43 (0, 0)) (by (with_reducible repeat (first | refine blk_drewN ?_ _ | refine blk_drew ?_ | refine blk_alloc ?_ _)); exact BK142.out) k_ hk)); (case aO => exact (by (with_reducible repeat (first | apply Kd.R_alloc | apply Kd.R_drewN | apply Kd.R_drew)); exact HO_12.out)); (case aS => exact (below_size (by repeat (first | (with_reducible first | exact HB.out | apply below_alloc | apply pw_below_drewN | apply below_drew1 | refine below_set ?_ GE142.out) | exact HB.out)))); (case aL => have := LMc47.out; omega); intro v154 w50 ho hb hg hat; rw [← Ny153.out] at ho; have n0_ := Aside0.mk (blk_grown (g := gb142) (o := .cells #[.bool (decide (x16_20 > 0)), .int .i64 x13_2, .int .i64 (wrap64 (x13_2 + x16_20)), .int .i64 x14_2, .int .i64 (wrap64 (x14_2 + x16_20)), .int .i64 x15_2, .int .i64 (wrap64 (x15_2 + x16_20))] 43 (0, 0)) (by (with_reducible repeat (first | refine blk_drewN ?_ _ | refine blk_drew ?_ | refine blk_alloc ?_ _)); exact BK142.out) hg (Kd.R_away HO_12.out (fun _ hk => hk))); have n1_ := Aside0.mk (hb); have n2_ := Aside0.mk (ho); clear BK142; clear HB; clear HO_12; have BK142 := n0_; have HB := n1_; have HO155 := n2_; clear n0_ n1_ n2_; clear ho hb hg hat; have hcz72_0 : w50.cell? ⟨gb142, 0, none⟩ = some (.bool (decide (x16_20 > 0))) := (blk_cell BK142.out 0).trans rfl; have hcz72_1 : w50.cell? ⟨gb142, 1, none⟩ = some (.int .i64 x13_2) := (blk_cell BK142.out 1).trans rfl; have hcz72_2 : w50.cell? ⟨gb142, 2, none⟩ = some (.int .i64 (wrap64 (x13_2 + x16_20))) := (blk_cell BK142.out 2).trans rfl; have hcz72_3 : w50.cell? ⟨gb142, 3, none⟩ = some (.int .i64 x14_2) := (blk_cell BK142.out 3).trans rfl; have hcz72_4 : w50.cell? ⟨gb142, 4, none⟩ = some (.int .i64 (wrap64 (x14_2 + x16_20))) := (blk_cell BK142.out 4).trans rfl; have hcz72_5 : w50.cell? ⟨gb142, 5, none⟩ = some (.int .i64 x15_2) := (blk_cell BK142.out 5).trans rfl; have hcz72_6 : w50.cell? ⟨gb142, 6, none⟩ = some (.int .i64 (wrap64 (x15_2 + x16_20))) := (blk_cell BK142.out 6).trans rfl; have hfz72_0 := blk_frozen BK142.out 0; have hfz72_1 := blk_frozen BK142.out 1; have hfz72_2 := blk_frozen BK142.out 2; have hfz72_3 := blk_frozen BK142.out 3; have hfz72_4 := blk_frozen BK142.out 4; have hfz72_5 := blk_frozen BK142.out 5; have hfz72_6 := blk_frozen BK142.out 6))
             repeat (go_quiet (fail); try go_wp2)
             go_roundg kj20
             case measure => have := HJ5.out; have := HK2.out; have := HJ16.out; have := HJ20.out; omega
             case rel => exact ⟨(y153), (wrap64 (x13_2 + x16_20)), (wrap64 (x14_2 + x16_20)), (wrap64 (x15_2 + x16_20)), (by first | rfl | (simp; done) | (simp [*]; done)), (by first | rfl | (simp; done) | (simp [*]; done)), (by first | rfl | (simp; done) | (simp [*]; done)), H', ⟨by have := HJ5.out; have := HK2.out; have := HJ16.out; have := HJ20.out; omega⟩, ⟨by (with_reducible repeat (first | apply Kd.R_alloc | apply Kd.R_drewN | apply Kd.R_drew)); exact Kd.R_mono HO155.out (fun _ hk => trivial)⟩, ⟨by repeat (first | (with_reducible first | exact HB.out | apply below_alloc | apply pw_below_drewN | apply below_drew1 | refine below_set ?_ GE142.out) | exact HB.out)⟩⟩
            ·rw [if_neg c47] at H
             exact absurd H (by simp)
        ·replace c20 := Bool.eq_false_iff.mpr c20
         subst c20
         have H1 : (some (x12_2, true)) = some (r1, r2) := by rw [if_neg (show ¬ (false = true) by decide)] at H; exact H
         clear H
         have H := H1
         clear H1
         simp only [Option.some.injEq, Prod.mk.injEq] at H
         obtain ⟨rfl, rfl⟩ := H
         go_wp2
         repeat (go_quiet (fail); try go_wp2)
         go_ret2
         exact ⟨_, by first | rfl | (simp [errW_none, errW_some] <;> rfl) | (simp [*, errW_none, errW_some] <;> rfl), by (with_reducible repeat (first | apply Kd.R_alloc | apply Kd.R_drewN | apply Kd.R_drew)); exact HO_12.out, by repeat (first | (with_reducible first | exact HB.out | apply below_alloc | apply pw_below_drewN | apply below_drew1) | exact HB.out)⟩

end Go.Proofs.Ytkliaoikljjeaaa.X

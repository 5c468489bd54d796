-- written by this session's own program (wip/tools/myprint.py), over the kit's print
import Derived.Test.YtlimlbhhbjaljaaQx0
import Derived.Test.YtlimlbhhbjaljaaQx12
import Derived.Test.YtlimlbhhbjaljaaQx13
import Derived.Test.YtlimlbhhbjaljaaQx14
import Derived.Test.YtlimlbhhbjaljaaQx15
import Derived.Test.YtlimlbhhbjaljaaQx16
namespace Go.Proofs.Ytlimlbhhbjaljaa.Q
open Go.RowKit Go.Proofs.YtlimlbhhbjaljaaW.PrintWords Go.Proofs.YtlimlbhhbjaljaaW.PrintLast Go.Proofs.YtlimlbhhbjaljaaW.PrintMore
open Go.Proofs.YtlimlbhhbjaljaaV
attribute [local go_sem] max2_int min2_int max_two min_two max_three min_three max_four min_four   -- for this text's walks alone
set_option linter.unusedVariables false
set_option linter.unusedSimpArgs false

/-! ### portreeveref04_Right: function 22 -/
mutual
def portreeveref04_Right.j0 : Nat → Bool → Int → List (S51) → List (S56) → List (S68) → Option (Bool)
 | 0, _, _, _, _, _ => none
 | k + 1, x36, x257000, x257001, x257002, x257003 => if x36 = true then (some false) else ((portreeveref04_open.f k x257000 x257001 x257002 x257003).bind fun t257 => (if t257 = true then (portreeveref04_Right.l0 k 0 x257000 x257001 x257002 x257003) else (some false)))
def portreeveref04_Right.l0 : Nat → Int → Int → List (S51) → List (S56) → List (S68) → Option (Bool)
 | 0, _, _, _, _, _ => none
 | k + 1, x4, x257000, x257001, x257002, x257003 => if x4 < (x257002.length : Int) then ((portreeveref04_line.f k x257000 x257001 x257002 x257003 x4).bind fun t258 => (if t258 = true then (if 0 ≤ x4 then ((portreeveref04_last.f k x257000 x257001 x257002 x257003 ((rd_T56 x257002 x4).f1) (x257002.length : Int)).bind fun t260 => ((portreeveref04_Of.f k x257000 x257001 x257002 x257003 ((rd_T56 x257002 x4).f1)).bind fun t262 => (if t260 = x4 then (portreeveref04_Right.j2 k x4 ((decide (t262 ≥ 0)) == (((rd_T56 x257002 x4).f0) == 3)) x257000 x257001 x257002 x257003) else (portreeveref04_Right.j2 k x4 false x257000 x257001 x257002 x257003)))) else (none)) else (some false))) else (portreeveref04_Right.l1 k 0 x257000 x257001 x257002 x257003)
def portreeveref04_Right.j2 : Nat → Int → Bool → Int → List (S51) → List (S56) → List (S68) → Option (Bool)
 | 0, _, _, _, _, _, _ => none
 | k + 1, x4, x86, x257000, x257001, x257002, x257003 => if x86 = true then (some false) else (portreeveref04_Right.l0 k (wrap64 (x4 + 1)) x257000 x257001 x257002 x257003)
def portreeveref04_Right.l1 : Nat → Int → Int → List (S51) → List (S56) → List (S68) → Option (Bool)
 | 0, _, _, _, _, _ => none
 | k + 1, x8, x257000, x257001, x257002, x257003 => if x8 < (x257001.length : Int) then (if 0 ≤ x8 then ((portreeveref04_last.f k x257000 x257001 x257002 x257003 ((rd_T51 x257001 x8).f0) (x257002.length : Int)).bind fun t265 => (if t265 < 0 then (portreeveref04_Right.j4 k x8 true x257000 x257001 x257002 x257003) else (if 0 ≤ t265 then (if t265 < (x257002.length : Int) then (if ((rd_T56 x257002 t265).f2) = ((rd_T51 x257001 x8).f4) then (portreeveref04_Right.j4 k x8 (((rd_T56 x257002 t265).f3) != ((rd_T51 x257001 x8).f5)) x257000 x257001 x257002 x257003) else (portreeveref04_Right.j4 k x8 true x257000 x257001 x257002 x257003)) else (none)) else (none)))) else (none)) else (portreeveref04_Right.l2 k 0 x257000 x257001 x257002 x257003)
def portreeveref04_Right.j4 : Nat → Int → Bool → Int → List (S51) → List (S56) → List (S68) → Option (Bool)
 | 0, _, _, _, _, _, _ => none
 | k + 1, x8, x136, x257000, x257001, x257002, x257003 => if x136 = true then (some false) else (portreeveref04_Right.l1 k (wrap64 (x8 + 1)) x257000 x257001 x257002 x257003)
def portreeveref04_Right.l2 : Nat → Int → Int → List (S51) → List (S56) → List (S68) → Option (Bool)
 | 0, _, _, _, _, _ => none
 | k + 1, x10, x257000, x257001, x257002, x257003 => if x10 < (x257003.length : Int) then (if 0 ≤ x10 then ((portreeveref04_name.f ((rd_T68 x257003 x10).f0)).bind fun t272 => (if t272 = true then (if ((rd_T68 x257003 x10).f1) < 1 then (portreeveref04_Right.j6 k x10 true x257000 x257001 x257002 x257003) else (if ((rd_T68 x257003 x10).f1) > 255 then (portreeveref04_Right.j6 k x10 true x257000 x257001 x257002 x257003) else (if ((rd_T68 x257003 x10).f2) < 0 then (portreeveref04_Right.j6 k x10 true x257000 x257001 x257002 x257003) else (if ((rd_T68 x257003 x10).f2) > 1000000000 then (portreeveref04_Right.j6 k x10 true x257000 x257001 x257002 x257003) else ((portreeveref04_Failed.f k x257000 x257001 x257002 x257003 ((rd_T68 x257003 x10).f0)).bind fun t273 => (portreeveref04_Right.j6 k x10 (t273 != x10) x257000 x257001 x257002 x257003)))))) else (portreeveref04_Right.j6 k x10 true x257000 x257001 x257002 x257003))) else (none)) else (some true)
def portreeveref04_Right.j6 : Nat → Int → Bool → Int → List (S51) → List (S56) → List (S68) → Option (Bool)
 | 0, _, _, _, _, _, _ => none
 | k + 1, x10, x181, x257000, x257001, x257002, x257003 => if x181 = true then (some false) else (portreeveref04_Right.l2 k (wrap64 (x10 + 1)) x257000 x257001 x257002 x257003)
end
def portreeveref04_Right.f (k : Nat) (a0_0 : Int) (l0_1 : List (S51)) (l0_2 : List (S56)) (l0_3 : List (S68)) : Option (Bool) := if a0_0 < 0 then (portreeveref04_Right.j0 k true a0_0 l0_1 l0_2 l0_3) else (if a0_0 > 1000000000 then (portreeveref04_Right.j0 k true a0_0 l0_1 l0_2 l0_3) else (if (wrap64 ((l0_2.length : Int) + (l0_1.length : Int))) > 60 then (portreeveref04_Right.j0 k true a0_0 l0_1 l0_2 l0_3) else (portreeveref04_Right.j0 k (decide ((l0_3.length : Int) > 8)) a0_0 l0_1 l0_2 l0_3)))
theorem portreeveref04_Right.mono_l : ∀ k, (∀ y0 y1 y2 y3 y4, LeO (portreeveref04_Right.j0 k y0 y1 y2 y3 y4) (portreeveref04_Right.j0 (k + 1) y0 y1 y2 y3 y4)) ∧ (∀ y0 y1 y2 y3 y4, LeO (portreeveref04_Right.l0 k y0 y1 y2 y3 y4) (portreeveref04_Right.l0 (k + 1) y0 y1 y2 y3 y4)) ∧ (∀ y0 y1 y2 y3 y4 y5, LeO (portreeveref04_Right.j2 k y0 y1 y2 y3 y4 y5) (portreeveref04_Right.j2 (k + 1) y0 y1 y2 y3 y4 y5)) ∧ (∀ y0 y1 y2 y3 y4, LeO (portreeveref04_Right.l1 k y0 y1 y2 y3 y4) (portreeveref04_Right.l1 (k + 1) y0 y1 y2 y3 y4)) ∧ (∀ y0 y1 y2 y3 y4 y5, LeO (portreeveref04_Right.j4 k y0 y1 y2 y3 y4 y5) (portreeveref04_Right.j4 (k + 1) y0 y1 y2 y3 y4 y5)) ∧ (∀ y0 y1 y2 y3 y4, LeO (portreeveref04_Right.l2 k y0 y1 y2 y3 y4) (portreeveref04_Right.l2 (k + 1) y0 y1 y2 y3 y4)) ∧ (∀ y0 y1 y2 y3 y4 y5, LeO (portreeveref04_Right.j6 k y0 y1 y2 y3 y4 y5) (portreeveref04_Right.j6 (k + 1) y0 y1 y2 y3 y4 y5))
 | 0 => ⟨fun _ _ _ _ _ r h => by simp [portreeveref04_Right.j0] at h, fun _ _ _ _ _ r h => by simp [portreeveref04_Right.l0] at h, fun _ _ _ _ _ _ r h => by simp [portreeveref04_Right.j2] at h, fun _ _ _ _ _ r h => by simp [portreeveref04_Right.l1] at h, fun _ _ _ _ _ _ r h => by simp [portreeveref04_Right.j4] at h, fun _ _ _ _ _ r h => by simp [portreeveref04_Right.l2] at h, fun _ _ _ _ _ _ r h => by simp [portreeveref04_Right.j6] at h⟩
 | k + 1 => by
  obtain ⟨ih0, ih1, ih2, ih3, ih4, ih5, ih6⟩ := portreeveref04_Right.mono_l k
  refine ⟨?_, ?_, ?_, ?_, ?_, ?_, ?_⟩
  ·intro y0 y1 y2 y3 y4
   unfold portreeveref04_Right.j0
   repeat' first
   | (with_reducible exact ih0 _ _ _ _ _)
   | (with_reducible exact ih1 _ _ _ _ _)
   | (with_reducible exact ih2 _ _ _ _ _ _)
   | (with_reducible exact ih3 _ _ _ _ _)
   | (with_reducible exact ih4 _ _ _ _ _ _)
   | (with_reducible exact ih5 _ _ _ _ _)
   | (with_reducible exact ih6 _ _ _ _ _ _)
   | (with_reducible exact portreeveref04_Failed.mono _ _ _ _ _ _)
   | (with_reducible exact portreeveref04_Of.mono _ _ _ _ _ _)
   | (with_reducible exact portreeveref04_last.mono _ _ _ _ _ _ _)
   | (with_reducible exact portreeveref04_line.mono _ _ _ _ _ _)
   | (with_reducible exact portreeveref04_open.mono _ _ _ _ _)
   | (with_reducible exact LeO.refl _)
   | (with_reducible exact LeO.none _)
   | (with_reducible refine LeO.ite ?_ ?_)
   | (with_reducible refine LeO.bind ?_ (fun _ => ?_))
   | exact ih0 _ _ _ _ _
   | exact ih1 _ _ _ _ _
   | exact ih2 _ _ _ _ _ _
   | exact ih3 _ _ _ _ _
   | exact ih4 _ _ _ _ _ _
   | exact ih5 _ _ _ _ _
   | exact ih6 _ _ _ _ _ _
   | exact portreeveref04_Failed.mono _ _ _ _ _ _
   | exact portreeveref04_Of.mono _ _ _ _ _ _
   | exact portreeveref04_last.mono _ _ _ _ _ _ _
   | exact portreeveref04_line.mono _ _ _ _ _ _
   | exact portreeveref04_open.mono _ _ _ _ _
   | exact LeO.none _
   | refine LeO.ite ?_ ?_
   | refine LeO.bind ?_ (fun _ => ?_)
  ·intro y0 y1 y2 y3 y4
   unfold portreeveref04_Right.l0
   repeat' first
   | (with_reducible exact ih0 _ _ _ _ _)
   | (with_reducible exact ih1 _ _ _ _ _)
   | (with_reducible exact ih2 _ _ _ _ _ _)
   | (with_reducible exact ih3 _ _ _ _ _)
   | (with_reducible exact ih4 _ _ _ _ _ _)
   | (with_reducible exact ih5 _ _ _ _ _)
   | (with_reducible exact ih6 _ _ _ _ _ _)
   | (with_reducible exact portreeveref04_Failed.mono _ _ _ _ _ _)
   | (with_reducible exact portreeveref04_Of.mono _ _ _ _ _ _)
   | (with_reducible exact portreeveref04_last.mono _ _ _ _ _ _ _)
   | (with_reducible exact portreeveref04_line.mono _ _ _ _ _ _)
   | (with_reducible exact portreeveref04_open.mono _ _ _ _ _)
   | (with_reducible exact LeO.refl _)
   | (with_reducible exact LeO.none _)
   | (with_reducible refine LeO.ite ?_ ?_)
   | (with_reducible refine LeO.bind ?_ (fun _ => ?_))
   | exact ih0 _ _ _ _ _
   | exact ih1 _ _ _ _ _
   | exact ih2 _ _ _ _ _ _
   | exact ih3 _ _ _ _ _
   | exact ih4 _ _ _ _ _ _
   | exact ih5 _ _ _ _ _
   | exact ih6 _ _ _ _ _ _
   | exact portreeveref04_Failed.mono _ _ _ _ _ _
   | exact portreeveref04_Of.mono _ _ _ _ _ _
   | exact portreeveref04_last.mono _ _ _ _ _ _ _
   | exact portreeveref04_line.mono _ _ _ _ _ _
   | exact portreeveref04_open.mono _ _ _ _ _
   | exact LeO.none _
   | refine LeO.ite ?_ ?_
   | refine LeO.bind ?_ (fun _ => ?_)
  ·intro y0 y1 y2 y3 y4 y5
   unfold portreeveref04_Right.j2
   repeat' first
   | (with_reducible exact ih0 _ _ _ _ _)
   | (with_reducible exact ih1 _ _ _ _ _)
   | (with_reducible exact ih2 _ _ _ _ _ _)
   | (with_reducible exact ih3 _ _ _ _ _)
   | (with_reducible exact ih4 _ _ _ _ _ _)
   | (with_reducible exact ih5 _ _ _ _ _)
   | (with_reducible exact ih6 _ _ _ _ _ _)
   | (with_reducible exact portreeveref04_Failed.mono _ _ _ _ _ _)
   | (with_reducible exact portreeveref04_Of.mono _ _ _ _ _ _)
   | (with_reducible exact portreeveref04_last.mono _ _ _ _ _ _ _)
   | (with_reducible exact portreeveref04_line.mono _ _ _ _ _ _)
   | (with_reducible exact portreeveref04_open.mono _ _ _ _ _)
   | (with_reducible exact LeO.refl _)
   | (with_reducible exact LeO.none _)
   | (with_reducible refine LeO.ite ?_ ?_)
   | (with_reducible refine LeO.bind ?_ (fun _ => ?_))
   | exact ih0 _ _ _ _ _
   | exact ih1 _ _ _ _ _
   | exact ih2 _ _ _ _ _ _
   | exact ih3 _ _ _ _ _
   | exact ih4 _ _ _ _ _ _
   | exact ih5 _ _ _ _ _
   | exact ih6 _ _ _ _ _ _
   | exact portreeveref04_Failed.mono _ _ _ _ _ _
   | exact portreeveref04_Of.mono _ _ _ _ _ _
   | exact portreeveref04_last.mono _ _ _ _ _ _ _
   | exact portreeveref04_line.mono _ _ _ _ _ _
   | exact portreeveref04_open.mono _ _ _ _ _
   | exact LeO.none _
   | refine LeO.ite ?_ ?_
   | refine LeO.bind ?_ (fun _ => ?_)
  ·intro y0 y1 y2 y3 y4
   unfold portreeveref04_Right.l1
   repeat' first
   | (with_reducible exact ih0 _ _ _ _ _)
   | (with_reducible exact ih1 _ _ _ _ _)
   | (with_reducible exact ih2 _ _ _ _ _ _)
   | (with_reducible exact ih3 _ _ _ _ _)
   | (with_reducible exact ih4 _ _ _ _ _ _)
   | (with_reducible exact ih5 _ _ _ _ _)
   | (with_reducible exact ih6 _ _ _ _ _ _)
   | (with_reducible exact portreeveref04_Failed.mono _ _ _ _ _ _)
   | (with_reducible exact portreeveref04_Of.mono _ _ _ _ _ _)
   | (with_reducible exact portreeveref04_last.mono _ _ _ _ _ _ _)
   | (with_reducible exact portreeveref04_line.mono _ _ _ _ _ _)
   | (with_reducible exact portreeveref04_open.mono _ _ _ _ _)
   | (with_reducible exact LeO.refl _)
   | (with_reducible exact LeO.none _)
   | (with_reducible refine LeO.ite ?_ ?_)
   | (with_reducible refine LeO.bind ?_ (fun _ => ?_))
   | exact ih0 _ _ _ _ _
   | exact ih1 _ _ _ _ _
   | exact ih2 _ _ _ _ _ _
   | exact ih3 _ _ _ _ _
   | exact ih4 _ _ _ _ _ _
   | exact ih5 _ _ _ _ _
   | exact ih6 _ _ _ _ _ _
   | exact portreeveref04_Failed.mono _ _ _ _ _ _
   | exact portreeveref04_Of.mono _ _ _ _ _ _
   | exact portreeveref04_last.mono _ _ _ _ _ _ _
   | exact portreeveref04_line.mono _ _ _ _ _ _
   | exact portreeveref04_open.mono _ _ _ _ _
   | exact LeO.none _
   | refine LeO.ite ?_ ?_
   | refine LeO.bind ?_ (fun _ => ?_)
  ·intro y0 y1 y2 y3 y4 y5
   unfold portreeveref04_Right.j4
   repeat' first
   | (with_reducible exact ih0 _ _ _ _ _)
   | (with_reducible exact ih1 _ _ _ _ _)
   | (with_reducible exact ih2 _ _ _ _ _ _)
   | (with_reducible exact ih3 _ _ _ _ _)
   | (with_reducible exact ih4 _ _ _ _ _ _)
   | (with_reducible exact ih5 _ _ _ _ _)
   | (with_reducible exact ih6 _ _ _ _ _ _)
   | (with_reducible exact portreeveref04_Failed.mono _ _ _ _ _ _)
   | (with_reducible exact portreeveref04_Of.mono _ _ _ _ _ _)
   | (with_reducible exact portreeveref04_last.mono _ _ _ _ _ _ _)
   | (with_reducible exact portreeveref04_line.mono _ _ _ _ _ _)
   | (with_reducible exact portreeveref04_open.mono _ _ _ _ _)
   | (with_reducible exact LeO.refl _)
   | (with_reducible exact LeO.none _)
   | (with_reducible refine LeO.ite ?_ ?_)
   | (with_reducible refine LeO.bind ?_ (fun _ => ?_))
   | exact ih0 _ _ _ _ _
   | exact ih1 _ _ _ _ _
   | exact ih2 _ _ _ _ _ _
   | exact ih3 _ _ _ _ _
   | exact ih4 _ _ _ _ _ _
   | exact ih5 _ _ _ _ _
   | exact ih6 _ _ _ _ _ _
   | exact portreeveref04_Failed.mono _ _ _ _ _ _
   | exact portreeveref04_Of.mono _ _ _ _ _ _
   | exact portreeveref04_last.mono _ _ _ _ _ _ _
   | exact portreeveref04_line.mono _ _ _ _ _ _
   | exact portreeveref04_open.mono _ _ _ _ _
   | exact LeO.none _
   | refine LeO.ite ?_ ?_
   | refine LeO.bind ?_ (fun _ => ?_)
  ·intro y0 y1 y2 y3 y4
   unfold portreeveref04_Right.l2
   repeat' first
   | (with_reducible exact ih0 _ _ _ _ _)
   | (with_reducible exact ih1 _ _ _ _ _)
   | (with_reducible exact ih2 _ _ _ _ _ _)
   | (with_reducible exact ih3 _ _ _ _ _)
   | (with_reducible exact ih4 _ _ _ _ _ _)
   | (with_reducible exact ih5 _ _ _ _ _)
   | (with_reducible exact ih6 _ _ _ _ _ _)
   | (with_reducible exact portreeveref04_Failed.mono _ _ _ _ _ _)
   | (with_reducible exact portreeveref04_Of.mono _ _ _ _ _ _)
   | (with_reducible exact portreeveref04_last.mono _ _ _ _ _ _ _)
   | (with_reducible exact portreeveref04_line.mono _ _ _ _ _ _)
   | (with_reducible exact portreeveref04_open.mono _ _ _ _ _)
   | (with_reducible exact LeO.refl _)
   | (with_reducible exact LeO.none _)
   | (with_reducible refine LeO.ite ?_ ?_)
   | (with_reducible refine LeO.bind ?_ (fun _ => ?_))
   | exact ih0 _ _ _ _ _
   | exact ih1 _ _ _ _ _
   | exact ih2 _ _ _ _ _ _
   | exact ih3 _ _ _ _ _
   | exact ih4 _ _ _ _ _ _
   | exact ih5 _ _ _ _ _
   | exact ih6 _ _ _ _ _ _
   | exact portreeveref04_Failed.mono _ _ _ _ _ _
   | exact portreeveref04_Of.mono _ _ _ _ _ _
   | exact portreeveref04_last.mono _ _ _ _ _ _ _
   | exact portreeveref04_line.mono _ _ _ _ _ _
   | exact portreeveref04_open.mono _ _ _ _ _
   | exact LeO.none _
   | refine LeO.ite ?_ ?_
   | refine LeO.bind ?_ (fun _ => ?_)
  ·intro y0 y1 y2 y3 y4 y5
   unfold portreeveref04_Right.j6
   repeat' first
   | (with_reducible exact ih0 _ _ _ _ _)
   | (with_reducible exact ih1 _ _ _ _ _)
   | (with_reducible exact ih2 _ _ _ _ _ _)
   | (with_reducible exact ih3 _ _ _ _ _)
   | (with_reducible exact ih4 _ _ _ _ _ _)
   | (with_reducible exact ih5 _ _ _ _ _)
   | (with_reducible exact ih6 _ _ _ _ _ _)
   | (with_reducible exact portreeveref04_Failed.mono _ _ _ _ _ _)
   | (with_reducible exact portreeveref04_Of.mono _ _ _ _ _ _)
   | (with_reducible exact portreeveref04_last.mono _ _ _ _ _ _ _)
   | (with_reducible exact portreeveref04_line.mono _ _ _ _ _ _)
   | (with_reducible exact portreeveref04_open.mono _ _ _ _ _)
   | (with_reducible exact LeO.refl _)
   | (with_reducible exact LeO.none _)
   | (with_reducible refine LeO.ite ?_ ?_)
   | (with_reducible refine LeO.bind ?_ (fun _ => ?_))
   | exact ih0 _ _ _ _ _
   | exact ih1 _ _ _ _ _
   | exact ih2 _ _ _ _ _ _
   | exact ih3 _ _ _ _ _
   | exact ih4 _ _ _ _ _ _
   | exact ih5 _ _ _ _ _
   | exact ih6 _ _ _ _ _ _
   | exact portreeveref04_Failed.mono _ _ _ _ _ _
   | exact portreeveref04_Of.mono _ _ _ _ _ _
   | exact portreeveref04_last.mono _ _ _ _ _ _ _
   | exact portreeveref04_line.mono _ _ _ _ _ _
   | exact portreeveref04_open.mono _ _ _ _ _
   | exact LeO.none _
   | refine LeO.ite ?_ ?_
   | refine LeO.bind ?_ (fun _ => ?_)
theorem portreeveref04_Right.mono : ∀ a0 a1 a2 a3 k, LeO (portreeveref04_Right.f k a0 a1 a2 a3) (portreeveref04_Right.f (k + 1) a0 a1 a2 a3) := by
 intro a0 a1 a2 a3 k
 obtain ⟨ih0, ih1, ih2, ih3, ih4, ih5, ih6⟩ := portreeveref04_Right.mono_l k
 unfold portreeveref04_Right.f
 repeat' first
   | (with_reducible exact ih0 _ _ _ _ _)
   | (with_reducible exact ih1 _ _ _ _ _)
   | (with_reducible exact ih2 _ _ _ _ _ _)
   | (with_reducible exact ih3 _ _ _ _ _)
   | (with_reducible exact ih4 _ _ _ _ _ _)
   | (with_reducible exact ih5 _ _ _ _ _)
   | (with_reducible exact ih6 _ _ _ _ _ _)
   | (with_reducible exact portreeveref04_Failed.mono _ _ _ _ _ _)
   | (with_reducible exact portreeveref04_Of.mono _ _ _ _ _ _)
   | (with_reducible exact portreeveref04_last.mono _ _ _ _ _ _ _)
   | (with_reducible exact portreeveref04_line.mono _ _ _ _ _ _)
   | (with_reducible exact portreeveref04_open.mono _ _ _ _ _)
   | (with_reducible exact LeO.refl _)
   | (with_reducible exact LeO.none _)
   | (with_reducible refine LeO.ite ?_ ?_)
   | (with_reducible refine LeO.bind ?_ (fun _ => ?_))
   | exact ih0 _ _ _ _ _
   | exact ih1 _ _ _ _ _
   | exact ih2 _ _ _ _ _ _
   | exact ih3 _ _ _ _ _
   | exact ih4 _ _ _ _ _ _
   | exact ih5 _ _ _ _ _
   | exact ih6 _ _ _ _ _ _
   | exact portreeveref04_Failed.mono _ _ _ _ _ _
   | exact portreeveref04_Of.mono _ _ _ _ _ _
   | exact portreeveref04_last.mono _ _ _ _ _ _ _
   | exact portreeveref04_line.mono _ _ _ _ _ _
   | exact portreeveref04_open.mono _ _ _ _ _
   | exact LeO.none _
   | refine LeO.ite ?_ ?_
   | refine LeO.bind ?_ (fun _ => ?_)
def portreeveref04_Right.T12 : Bool × List (List Nat × List Nat) := (true, [([], []), ([], []), ([1], [1]), ([], []), ([2, 3], [2, 3]), ([4], [4]), ([5], [5]), ([], []), ([7], [7]), ([8], [8]), ([0, 6, 9], [0, 6, 9]), ([], []), ([10, 11], [10, 11]), ([12, 10, 0, 1, 2, 3, 4, 5, 6, 7, 8, 9, 10, 11, 12], [12])])
def portreeveref04_Right.B12 : List Nat := [0, 0, 2, 0, 14, 30, 62, 0, 128, 384, 1023, 0, 4095, 8191]
theorem portreeveref04_Right.tab12 : rtab .any (opsOf Try.f22 12) = portreeveref04_Right.T12 := by kernel_rfl
theorem portreeveref04_Right.bits12 : waitsOk portreeveref04_Right.T12.2 portreeveref04_Right.B12 = true := by kernel_rfl
def portreeveref04_Right.T13 : Bool × List (List Nat × List Nat) := (true, [([], []), ([], []), ([1], [1]), ([], []), ([2, 3], [2, 3]), ([4], [4]), ([5], [5]), ([0, 6], [0, 6]), ([7], [7]), ([8, 7, 0, 1, 2, 3, 4, 5, 6, 7, 8], [8])])
def portreeveref04_Right.B13 : List Nat := [0, 0, 2, 0, 14, 30, 62, 127, 255, 511]
theorem portreeveref04_Right.tab13 : rtab .any (opsOf Try.f22 13) = portreeveref04_Right.T13 := by kernel_rfl
theorem portreeveref04_Right.bits13 : waitsOk portreeveref04_Right.T13.2 portreeveref04_Right.B13 = true := by kernel_rfl
def portreeveref04_Right.T19 : Bool × List (List Nat × List Nat) := (true, [([], []), ([], []), ([1], [1]), ([], []), ([2, 3], [2, 3]), ([4], [4]), ([5], [5]), ([], []), ([7], [7]), ([8], [8]), ([0, 6, 9], [0, 6, 9]), ([10, 10, 0, 1, 2, 3, 4, 5, 6, 7, 8, 9, 10], [10])])
def portreeveref04_Right.B19 : List Nat := [0, 0, 2, 0, 14, 30, 62, 0, 128, 384, 1023, 2047]
theorem portreeveref04_Right.tab19 : rtab .any (opsOf Try.f22 19) = portreeveref04_Right.T19 := by kernel_rfl
theorem portreeveref04_Right.bits19 : waitsOk portreeveref04_Right.T19.2 portreeveref04_Right.B19 = true := by kernel_rfl
def portreeveref04_Right.T20 : Bool × List (List Nat × List Nat) := (true, [([], []), ([0], [0]), ([1], [1]), ([2], [2]), ([3, 2], [2, 3]), ([2], [2]), ([4, 5, 2], [2, 4, 5]), ([6, 2], [2, 6]), ([7, 2], [2, 7]), ([2], [2]), ([9, 2], [2, 9]), ([2], [2]), ([10, 11, 2], [2, 10, 11]), ([12, 2], [2, 12]), ([13, 2], [2, 13]), ([8, 14, 2], [2, 8, 14]), ([2, 15], [2, 15]), ([16, 2], [16]), ([17], [17]), ([18, 17], [17, 18]), ([17], [17]), ([19, 20, 17], [17, 19, 20]), ([21, 17], [17, 21]), ([22, 17], [17, 22]), ([17], [17]), ([24, 17], [17, 24]), ([17], [17]), ([25, 26, 17], [17, 25, 26]), ([27, 17], [17, 27]), ([28, 17], [17, 28]), ([23, 29, 17], [17, 23, 29]), ([17, 30], [17, 30])])
def portreeveref04_Right.B20 : List Nat := [0, 1, 3, 7, 15, 7, 63, 127, 255, 7, 519, 7, 3591, 7687, 15879, 32767, 65535, 131071, 262143, 524287, 262143, 2097151, 4194303, 8388607, 262143, 17039359, 262143, 117702655, 251920383, 520355839, 1073741823, 2147483647]
theorem portreeveref04_Right.tab20 : rtab .any (opsOf Try.f22 20) = portreeveref04_Right.T20 := by kernel_rfl
theorem portreeveref04_Right.bits20 : waitsOk portreeveref04_Right.T20.2 portreeveref04_Right.B20 = true := by kernel_rfl
set_option maxHeartbeats 8000000 in
set_option maxRecDepth 100000 in
theorem portreeveref04_Right.calls (k : Nat) (ag : Int) (av : Option Addr) (ao : Nat) (ad : List (S51)) (aw : Option Addr) (ap : Nat) (aa : List (S56)) (au : Option Addr) (aq : Nat) (ac : List (S68)) (r : Bool) (w : World) (hr0_1 : Kd.C k51 w av ad.length ad) (hc0_1 : ad.length ≤ ao) (hr0_2 : Kd.C k56 w aw aa.length aa) (hc0_2 : aa.length ≤ ap) (hr0_3 : Kd.C k68 w au ac.length ac) (hc0_3 : ac.length ≤ aq) (h : portreeveref04_Right.f k ag ad aa ac = some r) :
  Calls Try.prog 22 #[.agg #[.int .i64 ag, .slice av ad.length ao, .slice aw aa.length ap, .slice au ac.length aq]] w fun e w' => e = .returned (.bool r) ∧ Below w.heap.size w w' := by
 have hu46 := Try.underlying46
 have hu56 := Try.underlying56
 have hu51 := Try.underlying51
 have hu68 := Try.underlying68
 have az := Aside0.mk hr0_1
 have HC0_1 := Aside0.mk hc0_1
 clear hr0_1 hc0_1
 have ay := Aside0.mk hr0_2
 have HC0_2 := Aside0.mk hc0_2
 clear hr0_2 hc0_2
 have aI := Aside0.mk hr0_3
 have HC0_3 := Aside0.mk hc0_3
 clear hr0_3 hc0_3
 have HB := Aside0.mk (Below.refl w.heap.size w)
 have H : (if ag < 0 then (portreeveref04_Right.j0 k true ag ad aa ac) else (if ag > 1000000000 then (portreeveref04_Right.j0 k true ag ad aa ac) else (if (wrap64 ((aa.length : Int) + (ad.length : Int))) > 60 then (portreeveref04_Right.j0 k true ag ad aa ac) else (portreeveref04_Right.j0 k (decide ((ac.length : Int) > 8)) ag ad aa ac)))) = some r := h
 clear h
 have HC2 := Aside0.mk H
 clear H
 go_enter Try.func22, Try.ntmps22
 go_upto_region 1 with (first | ((with_reducible refine gate_dst (N := 1) rfl ?_); (try (refine gate_guard (by rfl) ?_; dsimp only)); refine box_event ?hg (N := 1) ?hd (cs := #[.int .i64 ag, .slice av ad.length ao, .slice aw aa.length ap, .slice au ac.length aq]) (t := 46) ?hr ?_; (case hd => rfl); (case hg => rfl); (case hr => first | (go_simp; done) | (go_simp; rfl)); intro ak hg w3 hbox hb; have n0_ := Aside0.mk (below_step (zH HB.out) hb); have n1_ := Aside0.mk (hbox); have n2_ := Aside0.mk ((by rw [hg]; exact (below_size (zH HB.out)) : w.heap.size ≤ ak)); have n3_ := Aside0.mk ((by rw [hg]; exact (below_size (zH HB.out)) : w.heap.size ≤ ak)); clear HB; have HB := n0_; have ab := n1_; have eo := n2_; have al := n3_; clear n0_ n1_ n2_ n3_; clear hb hbox hg))
 (try simp only [Act.put, sT, s0, s1])
 go_cut [36] (fun v36 wc => ∃ (kq : Nat) (bK : Bool), v36 = .bool bK ∧ Aside0 (portreeveref04_Right.j0 kq bK ag ad aa ac = some r) ∧ Aside0 (kq ≤ k) ∧ Aside0 (wc.heap[ak]? = some (.cells #[.int .i64 ag, (.slice av ad.length ao), (.slice aw aa.length ap), (.slice au ac.length aq)] 46 (0, 0))) ∧ Aside0 (Below w.heap.size w wc))
 case first =>
  have H := HC2.out
  clear HC2
  by_cases c4 : ag < 0
  ·rw [if_pos c4] at H
   have aE : decide (ag < 0) = true := decide_eq_true c4
   clear c4
   (first | rw [aE] | (simp only [i64_w, i32_w]; rw [aE]) | skip)
   have H' := Aside0.mk H
   clear H
   obtain ⟨a6, a7, a8, a9, ba, bb, bc, bd⟩ := bk4 ab.out
   go_wp2
   (first | go_meet | (refine Met.intro ?_; go_step; (repeat apply Exists.intro); refine ⟨?rel, ?eq⟩; case eq => (simp only [aE]; rfl)))
   case rel => exact ⟨_, (true), (by first | rfl | (simp; done) | (simp [*]; done)), H', ⟨by first | omega | exact Nat.le_refl _⟩, ⟨zB ab.out⟩, ⟨by repeat (first | (with_reducible first | exact HB.out | apply pA | apply pN | apply pD | refine pS ?_ al.out) | exact HB.out)⟩⟩
  ·rw [if_neg c4] at H
   have aE : decide (ag < 0) = false := decide_eq_false c4
   clear c4
   (first | rw [aE] | (simp only [i64_w, i32_w]; rw [aE]) | skip)
   by_cases c6 : ag > 1000000000
   ·rw [if_pos c6] at H
    have aM : decide (1000000000 < ag) = true := decide_eq_true c6
    clear c6
    have H' := Aside0.mk H
    clear H
    obtain ⟨be, bf, bg, bh, bi, bj, bk, bl⟩ := bk4 ab.out
    go_wp2
    (first | go_meet | (refine Met.intro ?_; go_step; (repeat apply Exists.intro); refine ⟨?rel, ?eq⟩; case eq => (simp only [aE, aM]; rfl)))
    case rel => exact ⟨_, (true), (by first | rfl | (simp; done) | (simp [*]; done)), H', ⟨by first | omega | exact Nat.le_refl _⟩, ⟨zB ab.out⟩, ⟨by repeat (first | (with_reducible first | exact HB.out | apply pA | apply pN | apply pD | refine pS ?_ al.out) | exact HB.out)⟩⟩
   ·rw [if_neg c6] at H
    have aM : decide (1000000000 < ag) = false := decide_eq_false c6
    clear c6
    by_cases c8 : (wrap64 ((aa.length : Int) + (ad.length : Int))) > 60
    ·rw [if_pos c8] at H
     have a4 : decide (60 < (wrap64 ((aa.length : Int) + (ad.length : Int)))) = true := decide_eq_true c8
     clear c8
     have H' := Aside0.mk H
     clear H
     obtain ⟨bm, bn, bo, bp, bq, br, bs, bt⟩ := bk4 ab.out
     go_wp2
     (first | go_meet | (refine Met.intro ?_; go_step; (repeat apply Exists.intro); refine ⟨?rel, ?eq⟩; case eq => (simp only [aE, aM, a4]; rfl)))
     case rel => exact ⟨_, (true), (by first | rfl | (simp; done) | (simp [*]; done)), H', ⟨by first | omega | exact Nat.le_refl _⟩, ⟨zB ab.out⟩, ⟨by repeat (first | (with_reducible first | exact HB.out | apply pA | apply pN | apply pD | refine pS ?_ al.out) | exact HB.out)⟩⟩
    ·rw [if_neg c8] at H
     have a4 : decide (60 < (wrap64 ((aa.length : Int) + (ad.length : Int)))) = false := decide_eq_false c8
     clear c8
     have H' := Aside0.mk H
     clear H
     obtain ⟨aN, aO, aP, aQ, aR, aS, aT, aU⟩ := bk4 ab.out
     go_wp2
     (first | go_meet | (refine Met.intro ?_; go_step; (repeat apply Exists.intro); refine ⟨?rel, ?eq⟩; case eq => (simp only [aE, aM, a4]; rfl)))
     case rel => exact ⟨_, (decide ((ac.length : Int) > 8)), (by first | rfl | (simp; done) | (simp [*]; done)), H', ⟨by first | omega | exact Nat.le_refl _⟩, ⟨zB ab.out⟩, ⟨by repeat (first | (with_reducible first | exact HB.out | apply pA | apply pN | apply pD | refine pS ?_ al.out) | exact HB.out)⟩⟩
 case rest =>
  clear HC2
  try clear c2
  try clear p2
  try clear c4
  try clear aE
  try clear c6
  try clear aM
  try clear p6
  try clear c8
  try clear a4
  try clear aN
  try clear aO
  try clear aP
  try clear aQ
  try clear a6
  try clear a7
  try clear a8
  try clear a9
  try clear be
  try clear bf
  try clear bg
  try clear bh
  try clear bm
  try clear bn
  try clear bo
  try clear bp
  try clear aR
  try clear aS
  try clear aT
  try clear aU
  try clear ba
  try clear bb
  try clear bc
  try clear bd
  try clear bi
  try clear bj
  try clear bk
  try clear bl
  try clear bq
  try clear br
  try clear bs
  try clear bt
  obtain ⟨kq, bK, rfl, HA, aF, ab, HB⟩ := hcut
  cases kq with
  | zero => exact absurd HA.out (by simp [portreeveref04_Right.j0])
  | succ bI =>
   have H := HA.out
   clear HA
   simp only [portreeveref04_Right.j0] at H
   by_cases c11 : bK = true
   ·subst c11
    have H1 : (some false) = some r := by rw [if_pos rfl] at H; exact H
    clear H
    have H := H1
    clear H1
    obtain rfl := Option.some.inj H
    go_wp2
    go_ret
    exact ⟨by first | rfl | (simp [errW_none, errW_some] <;> rfl) | (simp [*, errW_none, errW_some] <;> rfl), by repeat (first | (with_reducible first | exact HB.out | apply pA | apply pN | apply pD | refine pS ?_ al.out) | exact HB.out)⟩
   ·replace c11 := Bool.eq_false_iff.mpr c11
    subst c11
    have H1 : ((portreeveref04_open.f bI ag ad aa ac).bind fun cb => (if cb = true then (portreeveref04_Right.l0 bI 0 ag ad aa ac) else (some false))) = some r := by rw [if_neg (show ¬ (false = true) by decide)] at H; exact H
    clear H
    have H := H1
    clear H1
    replace H := Option.bind_eq_some_iff.mp H
    obtain ⟨cb, dA, H⟩ := H
    replace H : (if cb = true then (portreeveref04_Right.l0 bI 0 ag ad aa ac) else (some false)) = some r := H
    have dT := Aside0.mk dA
    clear dA
    by_cases c13 : cb = true
    ·subst c13
     have H1 : (portreeveref04_Right.l0 bI 0 ag ad aa ac) = some r := by rw [if_pos rfl] at H; exact H
     clear H
     have H := H1
     clear H1
     have H' := Aside0.mk H
     clear H
     obtain ⟨bA, bB, bC, bD, bE, bF, bG, bH⟩ := bk4 ab.out
     go_wp2_with (first | ((with_reducible refine gate_callee (f := 28) rfl ?_); refine goesL_ (some 38) rfl rfl Try.func28 (by kernel_rfl) rfl #[.agg #[.int .i64 ag, .slice av ad.length ao, .slice aw aa.length ap, .slice au ac.length aq]] rfl (by (try simp only [List.map_toArray, List.map_cons, List.map_nil]); first | done | rfl | (simp only [List.length_drop, List.length_take]; rfl)) ?_; (with_reducible refine (portreeveref04_open.calls bI ag _ _ ad _ _ aa _ _ ac true _ ?side1 ?side2 ?side3 ?side4 ?side5 ?side6 dT.out).mono ?_); (case side1 => repeat (first | exact (Kd.C_below az.out HB.out) | (with_reducible refine Kd.C_alloc ?_ _) | (with_reducible refine Kd.C_drewN ?_ _) | (with_reducible refine Kd.C_drew ?_))); (case side2 => exact HC0_1.out); (case side3 => repeat (first | exact (Kd.C_below ay.out HB.out) | (with_reducible refine Kd.C_alloc ?_ _) | (with_reducible refine Kd.C_drewN ?_ _) | (with_reducible refine Kd.C_drew ?_))); (case side4 => exact HC0_2.out); (case side5 => repeat (first | exact (Kd.C_below aI.out HB.out) | (with_reducible refine Kd.C_alloc ?_ _) | (with_reducible refine Kd.C_drewN ?_ _) | (with_reducible refine Kd.C_drew ?_))); (case side6 => exact HC0_3.out); rintro e w15 ⟨rfl, hb⟩; refine ⟨_, rfl, ?_⟩; have n0_ := Aside0.mk (blk_below (g := ak) (o := .cells #[.int .i64 ag, .slice av ad.length ao, .slice aw aa.length ap, .slice au ac.length aq] 46 (0, 0)) (zB ab.out) hb); have n1_ := Aside0.mk (below_step (by repeat (first | (with_reducible first | exact HB.out | apply pA | apply pN | apply pD | refine pS ?_ al.out) | exact HB.out)) hb); clear ab; clear HB; have ab := n0_; have HB := n1_; clear n0_ n1_; (try clear hb); (try clear hb2); (try clear hk); (try clear hi)))
     go_loopg [4] bI (fun kq v4 w' => ∃ (ah : Int), v4 = .int .i64 ah ∧ Aside0 (portreeveref04_Right.l0 kq ah ag ad aa ac = some r) ∧ Aside0 (kq ≤ bI) ∧ Aside0 (w'.heap[ak]? = some (.cells #[.int .i64 ag, (.slice av ad.length ao), (.slice aw aa.length ap), (.slice au ac.length aq)] 46 (0, 0))) ∧ Aside0 (Below w.heap.size w w'))
     case atStart => exact ⟨(0), (by first | rfl | (simp; done) | (simp [*]; done)), H', ⟨Nat.le_refl _⟩, ⟨zB ab.out⟩, ⟨by repeat (first | (with_reducible first | exact HB.out | apply pA | apply pN | apply pD | refine pS ?_ al.out) | exact HB.out)⟩⟩
     case round =>
      clear H'
      try clear c1
      try clear c2
      try clear p2
      try clear c4
      try clear aE
      try clear c6
      try clear aM
      try clear p6
      try clear c8
      try clear a4
      try clear c11
      try clear c13
      try clear aN
      try clear aO
      try clear aP
      try clear aQ
      try clear bA
      try clear bB
      try clear bC
      try clear bD
      try clear a6
      try clear a7
      try clear a8
      try clear a9
      try clear be
      try clear bf
      try clear bg
      try clear bh
      try clear bm
      try clear bn
      try clear bo
      try clear bp
      try clear aR
      try clear aS
      try clear aT
      try clear aU
      try clear bE
      try clear bF
      try clear bG
      try clear bH
      try clear ba
      try clear bb
      try clear bc
      try clear bd
      try clear bi
      try clear bj
      try clear bk
      try clear bl
      try clear bq
      try clear br
      try clear bs
      try clear bt
      try clear p2
      try clear p6
      obtain ⟨ah, rfl, HA, aG, ab, HB⟩ := hrel
      cases gk with
      | zero => exact absurd HA.out (by simp [portreeveref04_Right.l0])
      | succ k2 =>
       have H := HA.out
       clear HA
       simp only [portreeveref04_Right.l0] at H
       by_cases c16 : ah < (aa.length : Int)
       ·rw [if_pos c16] at H
        have cc : decide (ah < (aa.length : Int)) = true := decide_eq_true c16
        clear c16
        replace H := Option.bind_eq_some_iff.mp H
        obtain ⟨dB, dC, H⟩ := H
        replace H : (if dB = true then (if 0 ≤ ah then ((portreeveref04_last.f k2 ag ad aa ac ((rd_T56 aa ah).f1) (aa.length : Int)).bind fun aH => ((portreeveref04_Of.f k2 ag ad aa ac ((rd_T56 aa ah).f1)).bind fun aL => (if aH = ah then (portreeveref04_Right.j2 k2 ah ((decide (aL ≥ 0)) == (((rd_T56 aa ah).f0) == 3)) ag ad aa ac) else (portreeveref04_Right.j2 k2 ah false ag ad aa ac)))) else (none)) else (some false)) = some r := H
        have dU := Aside0.mk dC
        clear dC
        by_cases c18 : dB = true
        ·subst c18
         have H1 : (if 0 ≤ ah then ((portreeveref04_last.f k2 ag ad aa ac ((rd_T56 aa ah).f1) (aa.length : Int)).bind fun aH => ((portreeveref04_Of.f k2 ag ad aa ac ((rd_T56 aa ah).f1)).bind fun aL => (if aH = ah then (portreeveref04_Right.j2 k2 ah ((decide (aL ≥ 0)) == (((rd_T56 aa ah).f0) == 3)) ag ad aa ac) else (portreeveref04_Right.j2 k2 ah false ag ad aa ac)))) else (none)) = some r := by rw [if_pos rfl] at H; exact H
         clear H
         have H := H1
         clear H1
         by_cases c19 : 0 ≤ ah
         ·rw [if_pos c19] at H
          have ch : decide (0 ≤ ah) = true := decide_eq_true c19
          clear c19
          replace H := Option.bind_eq_some_iff.mp H
          obtain ⟨aH, dD, H⟩ := H
          replace H : ((portreeveref04_Of.f k2 ag ad aa ac ((rd_T56 aa ah).f1)).bind fun aL => (if aH = ah then (portreeveref04_Right.j2 k2 ah ((decide (aL ≥ 0)) == (((rd_T56 aa ah).f0) == 3)) ag ad aa ac) else (portreeveref04_Right.j2 k2 ah false ag ad aa ac))) = some r := H
          have ej := Aside0.mk dD
          clear dD
          replace H := Option.bind_eq_some_iff.mp H
          obtain ⟨aL, dE, H⟩ := H
          replace H : (if aH = ah then (portreeveref04_Right.j2 k2 ah ((decide (aL ≥ 0)) == (((rd_T56 aa ah).f0) == 3)) ag ad aa ac) else (portreeveref04_Right.j2 k2 ah false ag ad aa ac)) = some r := H
          have ek := Aside0.mk dE
          clear dE
          have HC22 := Aside0.mk H
          clear H
          obtain ⟨bN, bO, bP, bQ, bR, bS, bT, bU⟩ := bk4 ab.out
          try go_wp2_with (first | ((with_reducible refine gate_callee (f := 29) rfl ?_); refine goesL_ (some 50) rfl rfl Try.func29 (by kernel_rfl) rfl #[.agg #[.int .i64 ag, .slice av ad.length ao, .slice aw aa.length ap, .slice au ac.length aq], .int .i64 ah] rfl (by (try simp only [List.map_toArray, List.map_cons, List.map_nil]); first | done | rfl | (simp only [List.length_drop, List.length_take]; rfl)) ?_; (with_reducible refine (portreeveref04_line.calls k2 ag _ _ ad _ _ aa _ _ ac ah true _ ?side1 ?side2 ?side3 ?side4 ?side5 ?side6 dU.out).mono ?_); (case side1 => repeat (first | exact (Kd.C_below az.out HB.out) | (with_reducible refine Kd.C_alloc ?_ _) | (with_reducible refine Kd.C_drewN ?_ _) | (with_reducible refine Kd.C_drew ?_))); (case side2 => exact HC0_1.out); (case side3 => repeat (first | exact (Kd.C_below ay.out HB.out) | (with_reducible refine Kd.C_alloc ?_ _) | (with_reducible refine Kd.C_drewN ?_ _) | (with_reducible refine Kd.C_drew ?_))); (case side4 => exact HC0_2.out); (case side5 => repeat (first | exact (Kd.C_below aI.out HB.out) | (with_reducible refine Kd.C_alloc ?_ _) | (with_reducible refine Kd.C_drewN ?_ _) | (with_reducible refine Kd.C_drew ?_))); (case side6 => exact HC0_3.out); rintro e w24 ⟨rfl, hb⟩; refine ⟨_, rfl, ?_⟩; have n0_ := Aside0.mk (blk_below (g := ak) (o := .cells #[.int .i64 ag, .slice av ad.length ao, .slice aw aa.length ap, .slice au ac.length aq] 46 (0, 0)) (zB ab.out) hb); have n1_ := Aside0.mk (below_step (by repeat (first | (with_reducible first | exact HB.out | apply pA | apply pN | apply pD | refine pS ?_ al.out) | exact HB.out)) hb); clear ab; clear HB; have ab := n0_; have HB := n1_; clear n0_ n1_; (try clear hb); (try clear hb2); (try clear hk); (try clear hi)))
          have n0_ := Aside0.mk (qD ab.out)
          have n1_ := Aside0.mk (pD HB.out)
          clear ab
          clear HB
          have ab := n0_
          have HB := n1_
          clear n0_ n1_
          have p259 : 0 ≤ (ah : Int) := of_decide_eq_true (by first | (with_reducible assumption) | assumption)
          have q259 : ah < (aa.length : Int) := of_decide_eq_true (by first | (with_reducible assumption) | assumption)
          obtain ⟨an, e259, hx259_0, hx259_1, hx259_2, hx259_3, hx259_4⟩ := at_T56 ay.out ah p259 q259
          have hw259_4 := hx259_4
          have hw259_3 := hx259_3
          have hw259_2 := hx259_2
          have hw259_1 := hx259_1
          have hw259_0 := hx259_0
          cases e259
          replace hx259_0 := (HB.out.cell (World.block_lt_of_cell? w _ hx259_0)).trans hx259_0
          replace hx259_1 := (HB.out.cell (World.block_lt_of_cell? w _ hx259_1)).trans hx259_1
          replace hx259_2 := (HB.out.cell (World.block_lt_of_cell? w _ hx259_2)).trans hx259_2
          replace hx259_3 := (HB.out.cell (World.block_lt_of_cell? w _ hx259_3)).trans hx259_3
          replace hx259_4 := (HB.out.cell (World.block_lt_of_cell? w _ hx259_4)).trans hx259_4
          replace p259 := eq_true p259
          replace q259 := eq_true q259
          refine start_ (n := 14) (S := fun w' => w'.cell? ⟨ak, 0, none⟩ = some (.int .i64 ag) ∧ w'.cell? ⟨ak, 1, none⟩ = some (.slice av ad.length ao) ∧ w'.cell? ⟨ak, 2, none⟩ = some (.slice (some an) aa.length ap) ∧ w'.cell? ⟨ak, 3, none⟩ = some (.slice au ac.length aq) ∧ w'.cell? (an.add ((ah).toNat * 5)) = some (.int .i64 ((rd_T56 aa ah).f0)) ∧ w'.cell? ⟨(an.add ((ah).toNat * 5)).block, (an.add ((ah).toNat * 5)).off + 1, none⟩ = some (.int .i64 ((rd_T56 aa ah).f1)) ∧ w'.cell? ⟨(an.add ((ah).toNat * 5)).block, (an.add ((ah).toNat * 5)).off + 2, none⟩ = some (.int .u64 ((rd_T56 aa ah).f2)) ∧ w'.cell? ⟨(an.add ((ah).toNat * 5)).block, (an.add ((ah).toNat * 5)).off + 3, none⟩ = some (.int .u64 ((rd_T56 aa ah).f3)) ∧ w'.cell? ⟨(an.add ((ah).toNat * 5)).block, (an.add ((ah).toNat * 5)).off + 4, none⟩ = some (.int .i64 ((rd_T56 aa ah).f4))) (ds := []) #[false, false, false, false, false, false, false, false, false, false, false, false, false, false] (by kernel_rfl) rfl rfl ⟨(blk_cell ab.out 0).trans rfl, (blk_cell ab.out 1).trans rfl, (blk_cell ab.out 2).trans rfl, (blk_cell ab.out 3).trans rfl, ((HB.out.cell (World.block_lt_of_cell? w _ hw259_0)).trans hw259_0), ((HB.out.cell (World.block_lt_of_cell? w _ hw259_1)).trans hw259_1), ((HB.out.cell (World.block_lt_of_cell? w _ hw259_2)).trans hw259_2), ((HB.out.cell (World.block_lt_of_cell? w _ hw259_3)).trans hw259_3), ((HB.out.cell (World.block_lt_of_cell? w _ hw259_4)).trans hw259_4)⟩ (fun hHeld => ?_); refine with_tabW portreeveref04_Right.tab12 portreeveref04_Right.bits12 (fun HT_ HW_ => ?_)
          generalize w24.drew = w25 at ab HB hx259_0 hx259_1 hx259_2 hx259_3 hx259_4 hHeld ⊢
          refine pure_ (i := 1) (N := some 54) (v := ?_) (a' := ?_) #[false, true, false, false, false, false, false, false, false, false, false, false, false, false] rfl rfl (any_of HT_.out (by kernel_rfl)) (fun _ _ _ h => h) (Or.inl ⟨by rfl, ?_⟩) ?_ ?_
          rotate_left
          ·intro w'
           go_simp
           with_reducible rfl
          rotate_left
          ·simp only [Act.put, sT, s0, s1, i64_w, i32_w]
           rfl
          refine pure_ (i := 3) (N := some 56) (v := ?_) (a' := ?_) #[false, true, false, true, false, false, false, false, false, false, false, false, false, false] rfl rfl (any_of HT_.out (by kernel_rfl)) (fun _ _ _ h => h) (Or.inl ⟨by rfl, ?_⟩) ?_ ?_
          rotate_left
          ·intro w'
           go_simp
           with_reducible rfl
          rotate_left
          ·simp only [Act.put, sT, s0, s1, i64_w, i32_w]
           rfl
          refine pure_ (i := 7) (N := some 60) (v := ?_) (a' := ?_) #[false, true, false, true, false, false, false, true, false, false, false, false, false, false] rfl rfl (any_of HT_.out (by kernel_rfl)) (fun _ _ _ h => h) (Or.inl ⟨by rfl, ?_⟩) ?_ ?_
          rotate_left
          ·intro w'
           go_simp
           with_reducible rfl
          rotate_left
          ·simp only [Act.put, sT, s0, s1, i64_w, i32_w]
           rfl
          refine pure_ (i := 11) (N := some 64) (v := ?_) (a' := ?_) #[false, true, false, true, false, false, false, true, false, false, false, true, false, false] rfl rfl (any_of HT_.out (by kernel_rfl)) (fun _ _ _ h => h) (Or.inl ⟨by rfl, ?_⟩) ?_ ?_
          rotate_left
          ·intro w'
           go_simp
           with_reducible rfl
          rotate_left
          ·simp only [Act.put, sT, s0, s1, i64_w, i32_w]
           rfl
          refine take_ (i := 0) (N := some 53) (v := ?_) (a' := ?_) #[true, true, false, true, false, false, false, true, false, false, false, true, false, false] rfl rfl (take_ofW HT_.out HW_.out (by kernel_rfl)) (fun _ _ _ h => h) (Or.inl ⟨by rfl, ?_⟩) hHeld ?_ ?_
          rotate_left
          ·rintro w' ⟨s0, s1, s2, s3, s4, s5, s6, s7, s8⟩
           go_simp
           with_reducible rfl
          rotate_left
          ·simp only [Act.put, sT, s0, s1, i64_w, i32_w]
           rfl
          refine take_ (i := 2) (N := some 55) (v := ?_) (a' := ?_) #[true, true, true, true, false, false, false, true, false, false, false, true, false, false] rfl rfl (take_ofW HT_.out HW_.out (by kernel_rfl)) (fun _ _ _ h => h) (Or.inl ⟨by rfl, ?_⟩) hHeld ?_ ?_
          rotate_left
          ·rintro w' ⟨s0, s1, s2, s3, s4, s5, s6, s7, s8⟩
           go_simp
           with_reducible rfl
          rotate_left
          ·simp only [Act.put, sT, s0, s1, i64_w, i32_w]
           rfl
          refine pure_ (i := 4) (N := some 57) (v := ?_) (a' := ?_) #[true, true, true, true, true, false, false, true, false, false, false, true, false, false] rfl rfl (any_of HT_.out (by kernel_rfl)) (fun _ _ _ h => h) (Or.inl ⟨by rfl, ?_⟩) ?_ ?_
          rotate_left
          ·intro w'
           go_simp
           with_reducible rfl
          rotate_left
          ·simp only [Act.put, sT, s0, s1, i64_w, i32_w]
           rfl
          refine pure_ (i := 5) (N := some 58) (v := ?_) (a' := ?_) #[true, true, true, true, true, true, false, true, false, false, false, true, false, false] rfl rfl (any_of HT_.out (by kernel_rfl)) (fun _ _ _ h => h) (Or.inl ⟨by rfl, ?_⟩) ?_ ?_
          rotate_left
          ·intro w'
           go_simp
           with_reducible rfl
          rotate_left
          ·simp only [Act.put, sT, s0, s1, i64_w, i32_w]
           rfl
          refine take_ (i := 6) (N := some 59) (v := ?_) (a' := ?_) #[true, true, true, true, true, true, true, true, false, false, false, true, false, false] rfl rfl (take_ofW HT_.out HW_.out (by kernel_rfl)) (fun _ _ _ h => h) (Or.inl ⟨by rfl, ?_⟩) hHeld ?_ ?_
          rotate_left
          ·rintro w' ⟨s0, s1, s2, s3, s4, s5, s6, s7, s8⟩
           go_simp
           with_reducible rfl
          rotate_left
          ·simp only [Act.put, sT, s0, s1, i64_w, i32_w]
           rfl
          refine take_ (i := 8) (N := some 61) (v := ?_) (a' := ?_) #[true, true, true, true, true, true, true, true, true, false, false, true, false, false] rfl rfl (take_ofW HT_.out HW_.out (by kernel_rfl)) (fun _ _ _ h => h) (Or.inl ⟨by rfl, ?_⟩) hHeld ?_ ?_
          rotate_left
          ·rintro w' ⟨s0, s1, s2, s3, s4, s5, s6, s7, s8⟩
           go_simp
           with_reducible rfl
          rotate_left
          ·simp only [Act.put, sT, s0, s1, i64_w, i32_w]
           rfl
          refine pure_ (i := 9) (N := some 62) (v := ?_) (a' := ?_) #[true, true, true, true, true, true, true, true, true, true, false, true, false, false] rfl rfl (any_of HT_.out (by kernel_rfl)) (fun _ _ _ h => h) (Or.inl ⟨by rfl, ?_⟩) ?_ ?_
          rotate_left
          ·intro w'
           go_simp
           with_reducible rfl
          rotate_left
          ·simp only [Act.put, sT, s0, s1, i64_w, i32_w]
           rfl
          refine one_ (i := 10) (N := some 63) #[true, true, true, true, true, true, true, true, true, true, true, true, false, false] rfl rfl (one_of HT_.out (by kernel_rfl)) (by decide) (fun K hK => ?_)
          refine goes_ Try.func30 (by kernel_rfl) rfl #[.agg #[.int .i64 ag, .slice av ad.length ao, .slice (some an) aa.length ap, .slice au ac.length aq], .int .i64 ((rd_T56 aa ah).f1), .int .i64 (aa.length : Int)] (by rfl) rfl rfl (by (try simp only [List.map_toArray, List.map_cons, List.map_nil]); first | done | rfl | (simp only [List.length_drop, List.length_take]; rfl)) ?_
          with_reducible refine (portreeveref04_last.calls k2 ag _ _ ad _ _ aa _ _ ac ((rd_T56 aa ah).f1) (aa.length : Int) aH _ ?side1 ?side2 ?side3 ?side4 ?side5 ?side6 ej.out).mono ?_
          (case side1 => repeat (first | exact (Kd.C_below az.out HB.out) | (with_reducible refine Kd.C_alloc ?_ _) | (with_reducible refine Kd.C_drewN ?_ _) | (with_reducible refine Kd.C_drew ?_)))
          (case side2 => exact HC0_1.out)
          (case side3 => repeat (first | exact (Kd.C_below ay.out HB.out) | (with_reducible refine Kd.C_alloc ?_ _) | (with_reducible refine Kd.C_drewN ?_ _) | (with_reducible refine Kd.C_drew ?_)))
          (case side4 => exact HC0_2.out)
          (case side5 => repeat (first | exact (Kd.C_below aI.out HB.out) | (with_reducible refine Kd.C_alloc ?_ _) | (with_reducible refine Kd.C_drewN ?_ _) | (with_reducible refine Kd.C_drew ?_)))
          (case side6 => exact HC0_3.out)
          rintro e w26 ⟨rfl, hb⟩
          refine ⟨_, rfl, ?_⟩
          have n0_ := Aside0.mk (blk_below (g := ak) (o := .cells #[.int .i64 ag, .slice av ad.length ao, .slice (some an) aa.length ap, .slice au ac.length aq] 46 (0, 0)) (zB ab.out) hb)
          have n1_ := Aside0.mk (below_step (by repeat (first | (with_reducible first | exact HB.out | apply pA | apply pN | apply pD | refine pS ?_ al.out) | exact HB.out)) hb)
          clear ab
          clear HB
          have ab := n0_
          have HB := n1_
          clear n0_ n1_
          (try clear hb)
          (try clear hb2)
          (try clear hk)
          (try clear hi)
          refine hK.out _ _ ⟨(blk_cell ab.out 0).trans rfl, (blk_cell ab.out 1).trans rfl, (blk_cell ab.out 2).trans rfl, (blk_cell ab.out 3).trans rfl, ((HB.out.cell (World.block_lt_of_cell? w _ hw259_0)).trans hw259_0), ((HB.out.cell (World.block_lt_of_cell? w _ hw259_1)).trans hw259_1), ((HB.out.cell (World.block_lt_of_cell? w _ hw259_2)).trans hw259_2), ((HB.out.cell (World.block_lt_of_cell? w _ hw259_3)).trans hw259_3), ((HB.out.cell (World.block_lt_of_cell? w _ hw259_4)).trans hw259_4)⟩ (fun hHeld => ?_)
          clear hK K
          refine norm_ (a' := ?_) ?_ ?_
          rotate_left
          ·show Act.put _ (some 63) _ = _
           simp only [Act.put, sT, s0, s1, i64_w, i32_w]
           rfl
          refine pure_ (i := 12) (N := some 65) (v := ?_) (a' := ?_) #[true, true, true, true, true, true, true, true, true, true, true, true, true, false] rfl rfl (any_of HT_.out (by kernel_rfl)) (fun _ _ _ h => h) (Or.inl ⟨by rfl, ?_⟩) ?_ ?_
          rotate_left
          ·intro w'
           go_simp
           with_reducible rfl
          rotate_left
          ·simp only [Act.put, sT, s0, s1, i64_w, i32_w]
           rfl
          refine pure_ (i := 13) (N := some 6) (v := ?_) (a' := ?_) #[true, true, true, true, true, true, true, true, true, true, true, true, true, true] rfl rfl (any_of HT_.out (by kernel_rfl)) (fun _ _ _ h => h) (Or.inl ⟨by rfl, ?_⟩) ?_ ?_
          rotate_left
          ·intro w'
           go_simp
           with_reducible rfl
          rotate_left
          ·simp only [Act.put, sT, s0, s1, i64_w, i32_w]
           rfl
          refine done_ (done_of HT_.out (by kernel_rfl)) ?_
          try go_wp2
          have n0_ := Aside0.mk (qD ab.out)
          have n1_ := Aside0.mk (pD HB.out)
          clear ab
          clear HB
          have ab := n0_
          have HB := n1_
          clear n0_ n1_
          have p261 : 0 ≤ (ah : Int) := of_decide_eq_true (by first | (with_reducible assumption) | assumption)
          have q261 : ah < (aa.length : Int) := of_decide_eq_true (by first | (with_reducible assumption) | assumption)
          obtain ⟨dO, e261, hx261_0, hx261_1, hx261_2, hx261_3, hx261_4⟩ := at_T56 ay.out ah p261 q261
          have hw261_4 := hx261_4
          have hw261_3 := hx261_3
          have hw261_2 := hx261_2
          have hw261_1 := hx261_1
          have hw261_0 := hx261_0
          obtain rfl : an = dO := (by injection e261)
          replace hx261_0 := (HB.out.cell (World.block_lt_of_cell? w _ hx261_0)).trans hx261_0
          replace hx261_1 := (HB.out.cell (World.block_lt_of_cell? w _ hx261_1)).trans hx261_1
          replace hx261_2 := (HB.out.cell (World.block_lt_of_cell? w _ hx261_2)).trans hx261_2
          replace hx261_3 := (HB.out.cell (World.block_lt_of_cell? w _ hx261_3)).trans hx261_3
          replace hx261_4 := (HB.out.cell (World.block_lt_of_cell? w _ hx261_4)).trans hx261_4
          replace p261 := eq_true p261
          replace q261 := eq_true q261
          refine start_ (n := 10) (S := fun w' => w'.cell? ⟨ak, 0, none⟩ = some (.int .i64 ag) ∧ w'.cell? ⟨ak, 1, none⟩ = some (.slice av ad.length ao) ∧ w'.cell? ⟨ak, 2, none⟩ = some (.slice (some an) aa.length ap) ∧ w'.cell? ⟨ak, 3, none⟩ = some (.slice au ac.length aq) ∧ w'.cell? (an.add ((ah).toNat * 5)) = some (.int .i64 ((rd_T56 aa ah).f0)) ∧ w'.cell? ⟨(an.add ((ah).toNat * 5)).block, (an.add ((ah).toNat * 5)).off + 1, none⟩ = some (.int .i64 ((rd_T56 aa ah).f1)) ∧ w'.cell? ⟨(an.add ((ah).toNat * 5)).block, (an.add ((ah).toNat * 5)).off + 2, none⟩ = some (.int .u64 ((rd_T56 aa ah).f2)) ∧ w'.cell? ⟨(an.add ((ah).toNat * 5)).block, (an.add ((ah).toNat * 5)).off + 3, none⟩ = some (.int .u64 ((rd_T56 aa ah).f3)) ∧ w'.cell? ⟨(an.add ((ah).toNat * 5)).block, (an.add ((ah).toNat * 5)).off + 4, none⟩ = some (.int .i64 ((rd_T56 aa ah).f4))) (ds := []) #[false, false, false, false, false, false, false, false, false, false] (by kernel_rfl) rfl rfl ⟨(blk_cell ab.out 0).trans rfl, (blk_cell ab.out 1).trans rfl, (blk_cell ab.out 2).trans rfl, (blk_cell ab.out 3).trans rfl, ((HB.out.cell (World.block_lt_of_cell? w _ hw261_0)).trans hw261_0), ((HB.out.cell (World.block_lt_of_cell? w _ hw261_1)).trans hw261_1), ((HB.out.cell (World.block_lt_of_cell? w _ hw261_2)).trans hw261_2), ((HB.out.cell (World.block_lt_of_cell? w _ hw261_3)).trans hw261_3), ((HB.out.cell (World.block_lt_of_cell? w _ hw261_4)).trans hw261_4)⟩ (fun hHeld => ?_); refine with_tabW portreeveref04_Right.tab13 portreeveref04_Right.bits13 (fun HT_ HW_ => ?_)
          generalize w26.drew = w27 at ab HB hx261_0 hx261_1 hx261_2 hx261_3 hx261_4 hHeld ⊢
          refine pure_ (i := 1) (N := some 67) (v := ?_) (a' := ?_) #[false, true, false, false, false, false, false, false, false, false] rfl rfl (any_of HT_.out (by kernel_rfl)) (fun _ _ _ h => h) (Or.inl ⟨by rfl, ?_⟩) ?_ ?_
          rotate_left
          ·intro w'
           go_simp
           with_reducible rfl
          rotate_left
          ·simp only [Act.put, sT, s0, s1, i64_w, i32_w]
           rfl
          refine pure_ (i := 3) (N := some 69) (v := ?_) (a' := ?_) #[false, true, false, true, false, false, false, false, false, false] rfl rfl (any_of HT_.out (by kernel_rfl)) (fun _ _ _ h => h) (Or.inl ⟨by rfl, ?_⟩) ?_ ?_
          rotate_left
          ·intro w'
           go_simp
           with_reducible rfl
          rotate_left
          ·simp only [Act.put, sT, s0, s1, i64_w, i32_w]
           rfl
          refine take_ (i := 0) (N := some 66) (v := ?_) (a' := ?_) #[true, true, false, true, false, false, false, false, false, false] rfl rfl (take_ofW HT_.out HW_.out (by kernel_rfl)) (fun _ _ _ h => h) (Or.inl ⟨by rfl, ?_⟩) hHeld ?_ ?_
          rotate_left
          ·rintro w' ⟨s0, s1, s2, s3, s4, s5, s6, s7, s8⟩
           go_simp
           with_reducible rfl
          rotate_left
          ·simp only [Act.put, sT, s0, s1, i64_w, i32_w]
           rfl
          refine take_ (i := 2) (N := some 68) (v := ?_) (a' := ?_) #[true, true, true, true, false, false, false, false, false, false] rfl rfl (take_ofW HT_.out HW_.out (by kernel_rfl)) (fun _ _ _ h => h) (Or.inl ⟨by rfl, ?_⟩) hHeld ?_ ?_
          rotate_left
          ·rintro w' ⟨s0, s1, s2, s3, s4, s5, s6, s7, s8⟩
           go_simp
           with_reducible rfl
          rotate_left
          ·simp only [Act.put, sT, s0, s1, i64_w, i32_w]
           rfl
          refine pure_ (i := 4) (N := some 70) (v := ?_) (a' := ?_) #[true, true, true, true, true, false, false, false, false, false] rfl rfl (any_of HT_.out (by kernel_rfl)) (fun _ _ _ h => h) (Or.inl ⟨by rfl, ?_⟩) ?_ ?_
          rotate_left
          ·intro w'
           go_simp
           with_reducible rfl
          rotate_left
          ·simp only [Act.put, sT, s0, s1, i64_w, i32_w]
           rfl
          refine pure_ (i := 5) (N := some 71) (v := ?_) (a' := ?_) #[true, true, true, true, true, true, false, false, false, false] rfl rfl (any_of HT_.out (by kernel_rfl)) (fun _ _ _ h => h) (Or.inl ⟨by rfl, ?_⟩) ?_ ?_
          rotate_left
          ·intro w'
           go_simp
           with_reducible rfl
          rotate_left
          ·simp only [Act.put, sT, s0, s1, i64_w, i32_w]
           rfl
          refine take_ (i := 6) (N := some 72) (v := ?_) (a' := ?_) #[true, true, true, true, true, true, true, false, false, false] rfl rfl (take_ofW HT_.out HW_.out (by kernel_rfl)) (fun _ _ _ h => h) (Or.inl ⟨by rfl, ?_⟩) hHeld ?_ ?_
          rotate_left
          ·rintro w' ⟨s0, s1, s2, s3, s4, s5, s6, s7, s8⟩
           go_simp
           with_reducible rfl
          rotate_left
          ·simp only [Act.put, sT, s0, s1, i64_w, i32_w]
           rfl
          refine one_ (i := 7) (N := some 73) #[true, true, true, true, true, true, true, true, false, false] rfl rfl (one_of HT_.out (by kernel_rfl)) (by decide) (fun K hK => ?_)
          refine goes_ Try.func24 (by kernel_rfl) rfl #[.agg #[.int .i64 ag, .slice av ad.length ao, .slice (some an) aa.length ap, .slice au ac.length aq], .int .i64 ((rd_T56 aa ah).f1)] (by rfl) rfl rfl (by (try simp only [List.map_toArray, List.map_cons, List.map_nil]); first | done | rfl | (simp only [List.length_drop, List.length_take]; rfl)) ?_
          with_reducible refine (portreeveref04_Of.calls k2 ag _ _ ad _ _ aa _ _ ac ((rd_T56 aa ah).f1) aL _ ?side1 ?side2 ?side3 ?side4 ?side5 ?side6 ek.out).mono ?_
          (case side1 => repeat (first | exact (Kd.C_below az.out HB.out) | (with_reducible refine Kd.C_alloc ?_ _) | (with_reducible refine Kd.C_drewN ?_ _) | (with_reducible refine Kd.C_drew ?_)))
          (case side2 => exact HC0_1.out)
          (case side3 => repeat (first | exact (Kd.C_below ay.out HB.out) | (with_reducible refine Kd.C_alloc ?_ _) | (with_reducible refine Kd.C_drewN ?_ _) | (with_reducible refine Kd.C_drew ?_)))
          (case side4 => exact HC0_2.out)
          (case side5 => repeat (first | exact (Kd.C_below aI.out HB.out) | (with_reducible refine Kd.C_alloc ?_ _) | (with_reducible refine Kd.C_drewN ?_ _) | (with_reducible refine Kd.C_drew ?_)))
          (case side6 => exact HC0_3.out)
          rintro e w28 ⟨rfl, hb⟩
          refine ⟨_, rfl, ?_⟩
          have n0_ := Aside0.mk (blk_below (g := ak) (o := .cells #[.int .i64 ag, .slice av ad.length ao, .slice (some an) aa.length ap, .slice au ac.length aq] 46 (0, 0)) (zB ab.out) hb)
          have n1_ := Aside0.mk (below_step (by repeat (first | (with_reducible first | exact HB.out | apply pA | apply pN | apply pD | refine pS ?_ al.out) | exact HB.out)) hb)
          clear ab
          clear HB
          have ab := n0_
          have HB := n1_
          clear n0_ n1_
          (try clear hb)
          (try clear hb2)
          (try clear hk)
          (try clear hi)
          refine hK.out _ _ ⟨(blk_cell ab.out 0).trans rfl, (blk_cell ab.out 1).trans rfl, (blk_cell ab.out 2).trans rfl, (blk_cell ab.out 3).trans rfl, ((HB.out.cell (World.block_lt_of_cell? w _ hw261_0)).trans hw261_0), ((HB.out.cell (World.block_lt_of_cell? w _ hw261_1)).trans hw261_1), ((HB.out.cell (World.block_lt_of_cell? w _ hw261_2)).trans hw261_2), ((HB.out.cell (World.block_lt_of_cell? w _ hw261_3)).trans hw261_3), ((HB.out.cell (World.block_lt_of_cell? w _ hw261_4)).trans hw261_4)⟩ (fun hHeld => ?_)
          clear hK K
          refine norm_ (a' := ?_) ?_ ?_
          rotate_left
          ·show Act.put _ (some 73) _ = _
           simp only [Act.put, sT, s0, s1, i64_w, i32_w]
           rfl
          refine pure_ (i := 8) (N := some 74) (v := ?_) (a' := ?_) #[true, true, true, true, true, true, true, true, true, false] rfl rfl (any_of HT_.out (by kernel_rfl)) (fun _ _ _ h => h) (Or.inl ⟨by rfl, ?_⟩) ?_ ?_
          rotate_left
          ·intro w'
           go_simp
           with_reducible rfl
          rotate_left
          ·simp only [Act.put, sT, s0, s1, i64_w, i32_w]
           rfl
          refine pure_ (i := 9) (N := some 7) (v := ?_) (a' := ?_) #[true, true, true, true, true, true, true, true, true, true] rfl rfl (any_of HT_.out (by kernel_rfl)) (fun _ _ _ h => h) (Or.inl ⟨by rfl, ?_⟩) ?_ ?_
          rotate_left
          ·intro w'
           go_simp
           with_reducible rfl
          rotate_left
          ·simp only [Act.put, sT, s0, s1, i64_w, i32_w]
           rfl
          refine done_ (done_of HT_.out (by kernel_rfl)) ?_
          go_upto_region 14 with (fail)
          go_cut [86] (fun v86 wc => ∃ (kq : Nat) (bu : Bool), v86 = .bool bu ∧ Aside0 (portreeveref04_Right.j2 kq ah bu ag ad aa ac = some r) ∧ Aside0 (kq ≤ k2) ∧ Aside0 (wc.heap[ak]? = some (.cells #[.int .i64 ag, (.slice av ad.length ao), (.slice (some an) aa.length ap), (.slice au ac.length aq)] 46 (0, 0))) ∧ Aside0 (Below w.heap.size w wc))
          case first =>
           have H := HC22.out
           clear HC22
           by_cases c29 : aH = ah
           ·rw [if_pos c29] at H
            have aJ : (aH == ah) = true := beq_iff_eq.mpr c29
            have cd : (aH != ah) = false := bne_eq_false_iff_eq.mpr c29
            clear c29
            (first | rw [aJ] | (simp only [i64_w, i32_w]; rw [aJ]) | skip)
            have H' := Aside0.mk H
            clear H
            obtain ⟨bV, bW, bX, bY, bZ, b0, b1, b2⟩ := bk4 ab.out
            have p263 : 0 ≤ (ah : Int) := of_decide_eq_true (by first | (with_reducible assumption) | assumption)
            have q263 : ah < (aa.length : Int) := of_decide_eq_true (by first | (with_reducible assumption) | assumption)
            obtain ⟨dP, e263, hx263_0, hx263_1, hx263_2, hx263_3, hx263_4⟩ := at_T56 ay.out ah p263 q263
            obtain rfl : an = dP := (by injection e263)
            replace hx263_0 := (HB.out.cell (World.block_lt_of_cell? w _ hx263_0)).trans hx263_0
            replace hx263_1 := (HB.out.cell (World.block_lt_of_cell? w _ hx263_1)).trans hx263_1
            replace hx263_2 := (HB.out.cell (World.block_lt_of_cell? w _ hx263_2)).trans hx263_2
            replace hx263_3 := (HB.out.cell (World.block_lt_of_cell? w _ hx263_3)).trans hx263_3
            replace hx263_4 := (HB.out.cell (World.block_lt_of_cell? w _ hx263_4)).trans hx263_4
            replace p263 := eq_true p263
            replace q263 := eq_true q263
            go_wp2
            (first | go_meet | (refine Met.intro ?_; go_step; (repeat apply Exists.intro); refine ⟨?rel, ?eq⟩; case eq => (simp only [aJ]; rfl)))
            case rel => exact ⟨_, (((decide (aL ≥ 0)) == (((rd_T56 aa ah).f0) == 3))), (by first | rfl | (simp; done) | (simp [*]; done)), H', ⟨by have := aF.out; have := aG.out; first | omega | exact Nat.le_refl _⟩, ⟨zB ab.out⟩, ⟨by repeat (first | (with_reducible first | exact HB.out | apply pA | apply pN | apply pD | refine pS ?_ al.out) | exact HB.out)⟩⟩
           ·rw [if_neg c29] at H
            have aJ : (aH == ah) = false := beq_eq_false_iff_ne.mpr c29
            have cd : (aH != ah) = true := bne_iff_ne.mpr c29
            (first | rw [aJ] | (simp only [i64_w, i32_w]; rw [aJ]) | skip)
            have H' := Aside0.mk H
            clear H
            go_wp2
            (first | go_meet | (refine Met.intro ?_; go_step; (repeat apply Exists.intro); refine ⟨?rel, ?eq⟩; case eq => (simp only [aJ]; rfl)))
            case rel => exact ⟨_, (false), (by first | rfl | (simp; done) | (simp [*]; done)), H', ⟨by have := aF.out; have := aG.out; first | omega | exact Nat.le_refl _⟩, ⟨zB ab.out⟩, ⟨by repeat (first | (with_reducible first | exact HB.out | apply pA | apply pN | apply pD | refine pS ?_ al.out) | exact HB.out)⟩⟩
          case rest =>
           clear HC22
           try clear c1
           try clear c2
           try clear p2
           try clear q2
           try clear hx2
           try clear c3
           try clear c4
           try clear aE
           try clear c6
           try clear aM
           try clear p6
           try clear c8
           try clear a4
           try clear c11
           try clear c13
           try clear c16
           try clear cc
           try clear c18
           try clear c19
           try clear ch
           try clear c24
           try clear p25
           try clear q25
           try clear hx25
           try clear p26
           try clear q26
           try clear hx26
           try clear c28
           try clear c29
           try clear aJ
           try clear cd
           try clear c30
           try clear aN
           try clear aO
           try clear aP
           try clear aQ
           try clear bA
           try clear bB
           try clear bC
           try clear bD
           try clear bN
           try clear bO
           try clear bP
           try clear bQ
           try clear bV
           try clear bW
           try clear bX
           try clear bY
           try clear a6
           try clear a7
           try clear a8
           try clear a9
           try clear be
           try clear bf
           try clear bg
           try clear bh
           try clear bm
           try clear bn
           try clear bo
           try clear bp
           try clear aR
           try clear aS
           try clear aT
           try clear aU
           try clear bE
           try clear bF
           try clear bG
           try clear bH
           try clear bR
           try clear bS
           try clear bT
           try clear bU
           try clear bZ
           try clear b0
           try clear b1
           try clear b2
           try clear ba
           try clear bb
           try clear bc
           try clear bd
           try clear bi
           try clear bj
           try clear bk
           try clear bl
           try clear bq
           try clear br
           try clear bs
           try clear bt
           try clear hx259_0
           try clear hx259_1
           try clear hx259_2
           try clear hx259_3
           try clear hx259_4
           try clear hx261_0
           try clear hx261_1
           try clear hx261_2
           try clear hx261_3
           try clear hx261_4
           try clear hx263_0
           try clear hx263_1
           try clear hx263_2
           try clear hx263_3
           try clear hx263_4
           try clear p2
           try clear p259
           try clear p261
           try clear p263
           try clear p6
           try clear q259
           try clear q261
           try clear q263
           obtain ⟨kq, bu, rfl, HA, dF, ab, HB⟩ := hcut
           cases kq with
           | zero => exact absurd HA.out (by simp [portreeveref04_Right.j2])
           | succ dG =>
            have H := HA.out
            clear HA
            simp only [portreeveref04_Right.j2] at H
            by_cases c31 : bu = true
            ·subst c31
             have H1 : (some false) = some r := by rw [if_pos rfl] at H; exact H
             clear H
             have H := H1
             clear H1
             obtain rfl := Option.some.inj H
             go_wp2
             go_ret
             exact ⟨by first | rfl | (simp [errW_none, errW_some] <;> rfl) | (simp [*, errW_none, errW_some] <;> rfl), by repeat (first | (with_reducible first | exact HB.out | apply pA | apply pN | apply pD | refine pS ?_ al.out) | exact HB.out)⟩
            ·replace c31 := Bool.eq_false_iff.mpr c31
             subst c31
             have H1 : (portreeveref04_Right.l0 dG (wrap64 (ah + 1)) ag ad aa ac) = some r := by rw [if_neg (show ¬ (false = true) by decide)] at H; exact H
             clear H
             have H := H1
             clear H1
             have H' := Aside0.mk H
             clear H
             go_wp2
             go_roundg dG
             case measure => have := aF.out; have := aG.out; have := dF.out; omega
             case rel => exact ⟨(wrap64 (ah + 1)), (by first | rfl | (simp; done) | (simp [*]; done)), H', ⟨by have := aF.out; have := aG.out; have := dF.out; omega⟩, ⟨zB ab.out⟩, ⟨by repeat (first | (with_reducible first | exact HB.out | apply pA | apply pN | apply pD | refine pS ?_ al.out) | exact HB.out)⟩⟩
         ·rw [if_neg c19] at H
          exact absurd H (by simp)
        ·replace c18 := Bool.eq_false_iff.mpr c18
         subst c18
         have H1 : (some false) = some r := by rw [if_neg (show ¬ (false = true) by decide)] at H; exact H
         clear H
         have H := H1
         clear H1
         obtain rfl := Option.some.inj H
         obtain ⟨cj, ck, cl, cm, cn, co, cp, cq⟩ := bk4 ab.out
         go_wp2_with (first | ((with_reducible refine gate_callee (f := 29) rfl ?_); refine goesL_ (some 50) rfl rfl Try.func29 (by kernel_rfl) rfl #[.agg #[.int .i64 ag, .slice av ad.length ao, .slice aw aa.length ap, .slice au ac.length aq], .int .i64 ah] rfl (by (try simp only [List.map_toArray, List.map_cons, List.map_nil]); first | done | rfl | (simp only [List.length_drop, List.length_take]; rfl)) ?_; (with_reducible refine (portreeveref04_line.calls k2 ag _ _ ad _ _ aa _ _ ac ah false _ ?side1 ?side2 ?side3 ?side4 ?side5 ?side6 dU.out).mono ?_); (case side1 => repeat (first | exact (Kd.C_below az.out HB.out) | (with_reducible refine Kd.C_alloc ?_ _) | (with_reducible refine Kd.C_drewN ?_ _) | (with_reducible refine Kd.C_drew ?_))); (case side2 => exact HC0_1.out); (case side3 => repeat (first | exact (Kd.C_below ay.out HB.out) | (with_reducible refine Kd.C_alloc ?_ _) | (with_reducible refine Kd.C_drewN ?_ _) | (with_reducible refine Kd.C_drew ?_))); (case side4 => exact HC0_2.out); (case side5 => repeat (first | exact (Kd.C_below aI.out HB.out) | (with_reducible refine Kd.C_alloc ?_ _) | (with_reducible refine Kd.C_drewN ?_ _) | (with_reducible refine Kd.C_drew ?_))); (case side6 => exact HC0_3.out); rintro e w33 ⟨rfl, hb⟩; refine ⟨_, rfl, ?_⟩; have n0_ := Aside0.mk (blk_below (g := ak) (o := .cells #[.int .i64 ag, .slice av ad.length ao, .slice aw aa.length ap, .slice au ac.length aq] 46 (0, 0)) (zB ab.out) hb); have n1_ := Aside0.mk (below_step (by repeat (first | (with_reducible first | exact HB.out | apply pA | apply pN | apply pD | refine pS ?_ al.out) | exact HB.out)) hb); clear ab; clear HB; have ab := n0_; have HB := n1_; clear n0_ n1_; (try clear hb); (try clear hb2); (try clear hk); (try clear hi)))
         go_ret
         exact ⟨by first | rfl | (simp [errW_none, errW_some] <;> rfl) | (simp [*, errW_none, errW_some] <;> rfl), by repeat (first | (with_reducible first | exact HB.out | apply pA | apply pN | apply pD | refine pS ?_ al.out) | exact HB.out)⟩
       ·rw [if_neg c16] at H
        have cc : decide (ah < (aa.length : Int)) = false := decide_eq_false c16
        clear c16
        have H' := Aside0.mk H
        clear H
        obtain ⟨cr, ct, cu, cv, cw, cx, cy, cz⟩ := bk4 ab.out
        go_wp2
        go_loopg [8] k2 (fun kq v8 w' => ∃ (ae : Int), v8 = .int .i64 ae ∧ Aside0 (portreeveref04_Right.l1 kq ae ag ad aa ac = some r) ∧ Aside0 (kq ≤ k2) ∧ Aside0 (w'.heap[ak]? = some (.cells #[.int .i64 ag, (.slice av ad.length ao), (.slice aw aa.length ap), (.slice au ac.length aq)] 46 (0, 0))) ∧ Aside0 (Below w.heap.size w w'))
        case atStart => exact ⟨(0), (by first | rfl | (simp; done) | (simp [*]; done)), H', ⟨Nat.le_refl _⟩, ⟨zB ab.out⟩, ⟨by repeat (first | (with_reducible first | exact HB.out | apply pA | apply pN | apply pD | refine pS ?_ al.out) | exact HB.out)⟩⟩
        case round =>
         clear H'
         try clear c1
         try clear c2
         try clear p2
         try clear q2
         try clear hx2
         try clear c3
         try clear c4
         try clear aE
         try clear c6
         try clear aM
         try clear p6
         try clear c8
         try clear a4
         try clear c11
         try clear c13
         try clear c16
         try clear cc
         try clear c18
         try clear c19
         try clear ch
         try clear c24
         try clear p25
         try clear q25
         try clear hx25
         try clear p26
         try clear q26
         try clear hx26
         try clear c28
         try clear c29
         try clear aJ
         try clear cd
         try clear c30
         try clear c31
         try clear aN
         try clear aO
         try clear aP
         try clear aQ
         try clear bA
         try clear bB
         try clear bC
         try clear bD
         try clear bN
         try clear bO
         try clear bP
         try clear bQ
         try clear bV
         try clear bW
         try clear bX
         try clear bY
         try clear cj
         try clear ck
         try clear cl
         try clear cm
         try clear cr
         try clear ct
         try clear cu
         try clear cv
         try clear a6
         try clear a7
         try clear a8
         try clear a9
         try clear be
         try clear bf
         try clear bg
         try clear bh
         try clear bm
         try clear bn
         try clear bo
         try clear bp
         try clear aR
         try clear aS
         try clear aT
         try clear aU
         try clear bE
         try clear bF
         try clear bG
         try clear bH
         try clear bR
         try clear bS
         try clear bT
         try clear bU
         try clear bZ
         try clear b0
         try clear b1
         try clear b2
         try clear cn
         try clear co
         try clear cp
         try clear cq
         try clear cw
         try clear cx
         try clear cy
         try clear cz
         try clear ba
         try clear bb
         try clear bc
         try clear bd
         try clear bi
         try clear bj
         try clear bk
         try clear bl
         try clear bq
         try clear br
         try clear bs
         try clear bt
         try clear hx259_0
         try clear hx259_1
         try clear hx259_2
         try clear hx259_3
         try clear hx259_4
         try clear hx261_0
         try clear hx261_1
         try clear hx261_2
         try clear hx261_3
         try clear hx261_4
         try clear hx263_0
         try clear hx263_1
         try clear hx263_2
         try clear hx263_3
         try clear hx263_4
         try clear p2
         try clear p25
         try clear p259
         try clear p26
         try clear p261
         try clear p263
         try clear p6
         try clear q2
         try clear q25
         try clear q259
         try clear q26
         try clear q261
         try clear q263
         obtain ⟨ae, rfl, HA, aK, ab, HB⟩ := hrel
         cases gk with
         | zero => exact absurd HA.out (by simp [portreeveref04_Right.l1])
         | succ k3 =>
          have H := HA.out
          clear HA
          simp only [portreeveref04_Right.l1] at H
          by_cases c35 : ae < (ad.length : Int)
          ·rw [if_pos c35] at H
           have ce : decide (ae < (ad.length : Int)) = true := decide_eq_true c35
           clear c35
           by_cases c36 : 0 ≤ ae
           ·rw [if_pos c36] at H
            have ep : decide (0 ≤ ae) = true := decide_eq_true c36
            clear c36
            replace H := Option.bind_eq_some_iff.mp H
            obtain ⟨ai, dH, H⟩ := H
            replace H : (if ai < 0 then (portreeveref04_Right.j4 k3 ae true ag ad aa ac) else (if 0 ≤ ai then (if ai < (aa.length : Int) then (if ((rd_T56 aa ai).f2) = ((rd_T51 ad ae).f4) then (portreeveref04_Right.j4 k3 ae (((rd_T56 aa ai).f3) != ((rd_T51 ad ae).f5)) ag ad aa ac) else (portreeveref04_Right.j4 k3 ae true ag ad aa ac)) else (none)) else (none))) = some r := H
            have el := Aside0.mk dH
            clear dH
            have HC38 := Aside0.mk H
            clear H
            obtain ⟨dV, dW, dX, dY, dZ, d0, d1, d2⟩ := bk4 ab.out
            try go_wp2
            have n0_ := Aside0.mk (qD ab.out)
            have n1_ := Aside0.mk (pD HB.out)
            clear ab
            clear HB
            have ab := n0_
            have HB := n1_
            clear n0_ n1_
            have p264 : 0 ≤ (ae : Int) := of_decide_eq_true (by first | (with_reducible assumption) | assumption)
            have q264 : ae < (ad.length : Int) := of_decide_eq_true (by first | (with_reducible assumption) | assumption)
            obtain ⟨aj, e264, hx264_0, hx264_1, hx264_2, hx264_3, hx264_4, hx264_5⟩ := at_T51 az.out ae p264 q264
            have hw264_5 := hx264_5
            have hw264_4 := hx264_4
            have hw264_3 := hx264_3
            have hw264_2 := hx264_2
            have hw264_1 := hx264_1
            have hw264_0 := hx264_0
            cases e264
            replace hx264_0 := (HB.out.cell (World.block_lt_of_cell? w _ hx264_0)).trans hx264_0
            replace hx264_1 := (HB.out.cell (World.block_lt_of_cell? w _ hx264_1)).trans hx264_1
            replace hx264_2 := (HB.out.cell (World.block_lt_of_cell? w _ hx264_2)).trans hx264_2
            replace hx264_3 := (HB.out.cell (World.block_lt_of_cell? w _ hx264_3)).trans hx264_3
            replace hx264_4 := (HB.out.cell (World.block_lt_of_cell? w _ hx264_4)).trans hx264_4
            replace hx264_5 := (HB.out.cell (World.block_lt_of_cell? w _ hx264_5)).trans hx264_5
            replace p264 := eq_true p264
            replace q264 := eq_true q264
            refine start_ (n := 12) (S := fun w' => w'.cell? ⟨ak, 0, none⟩ = some (.int .i64 ag) ∧ w'.cell? ⟨ak, 1, none⟩ = some (.slice (some aj) ad.length ao) ∧ w'.cell? ⟨ak, 2, none⟩ = some (.slice aw aa.length ap) ∧ w'.cell? ⟨ak, 3, none⟩ = some (.slice au ac.length aq) ∧ w'.cell? (aj.add ((ae).toNat * 6)) = some (.int .i64 ((rd_T51 ad ae).f0)) ∧ w'.cell? ⟨(aj.add ((ae).toNat * 6)).block, (aj.add ((ae).toNat * 6)).off + 1, none⟩ = some (.int .i64 ((rd_T51 ad ae).f1)) ∧ w'.cell? ⟨(aj.add ((ae).toNat * 6)).block, (aj.add ((ae).toNat * 6)).off + 2, none⟩ = some (.int .u32 ((rd_T51 ad ae).f2)) ∧ w'.cell? ⟨(aj.add ((ae).toNat * 6)).block, (aj.add ((ae).toNat * 6)).off + 3, none⟩ = some (.string ((rd_T51 ad ae).f3)) ∧ w'.cell? ⟨(aj.add ((ae).toNat * 6)).block, (aj.add ((ae).toNat * 6)).off + 4, none⟩ = some (.int .u64 ((rd_T51 ad ae).f4)) ∧ w'.cell? ⟨(aj.add ((ae).toNat * 6)).block, (aj.add ((ae).toNat * 6)).off + 5, none⟩ = some (.int .u64 ((rd_T51 ad ae).f5))) (ds := []) #[false, false, false, false, false, false, false, false, false, false, false, false] (by kernel_rfl) rfl rfl ⟨(blk_cell ab.out 0).trans rfl, (blk_cell ab.out 1).trans rfl, (blk_cell ab.out 2).trans rfl, (blk_cell ab.out 3).trans rfl, ((HB.out.cell (World.block_lt_of_cell? w _ hw264_0)).trans hw264_0), ((HB.out.cell (World.block_lt_of_cell? w _ hw264_1)).trans hw264_1), ((HB.out.cell (World.block_lt_of_cell? w _ hw264_2)).trans hw264_2), ((HB.out.cell (World.block_lt_of_cell? w _ hw264_3)).trans hw264_3), ((HB.out.cell (World.block_lt_of_cell? w _ hw264_4)).trans hw264_4), ((HB.out.cell (World.block_lt_of_cell? w _ hw264_5)).trans hw264_5)⟩ (fun hHeld => ?_); refine with_tabW portreeveref04_Right.tab19 portreeveref04_Right.bits19 (fun HT_ HW_ => ?_)
            generalize wr.drew = w40 at ab HB hx264_0 hx264_1 hx264_2 hx264_3 hx264_4 hx264_5 hHeld ⊢
            refine pure_ (i := 1) (N := some 95) (v := ?_) (a' := ?_) #[false, true, false, false, false, false, false, false, false, false, false, false] rfl rfl (any_of HT_.out (by kernel_rfl)) (fun _ _ _ h => h) (Or.inl ⟨by rfl, ?_⟩) ?_ ?_
            rotate_left
            ·intro w'
             go_simp
             with_reducible rfl
            rotate_left
            ·simp only [Act.put, sT, s0, s1, i64_w, i32_w]
             rfl
            refine pure_ (i := 3) (N := some 97) (v := ?_) (a' := ?_) #[false, true, false, true, false, false, false, false, false, false, false, false] rfl rfl (any_of HT_.out (by kernel_rfl)) (fun _ _ _ h => h) (Or.inl ⟨by rfl, ?_⟩) ?_ ?_
            rotate_left
            ·intro w'
             go_simp
             with_reducible rfl
            rotate_left
            ·simp only [Act.put, sT, s0, s1, i64_w, i32_w]
             rfl
            refine pure_ (i := 7) (N := some 101) (v := ?_) (a' := ?_) #[false, true, false, true, false, false, false, true, false, false, false, false] rfl rfl (any_of HT_.out (by kernel_rfl)) (fun _ _ _ h => h) (Or.inl ⟨by rfl, ?_⟩) ?_ ?_
            rotate_left
            ·intro w'
             go_simp
             with_reducible rfl
            rotate_left
            ·simp only [Act.put, sT, s0, s1, i64_w, i32_w]
             rfl
            refine take_ (i := 0) (N := some 94) (v := ?_) (a' := ?_) #[true, true, false, true, false, false, false, true, false, false, false, false] rfl rfl (take_ofW HT_.out HW_.out (by kernel_rfl)) (fun _ _ _ h => h) (Or.inl ⟨by rfl, ?_⟩) hHeld ?_ ?_
            rotate_left
            ·rintro w' ⟨s0, s1, s2, s3, s4, s5, s6, s7, s8, s9⟩
             go_simp
             with_reducible rfl
            rotate_left
            ·simp only [Act.put, sT, s0, s1, i64_w, i32_w]
             rfl
            refine take_ (i := 2) (N := some 96) (v := ?_) (a' := ?_) #[true, true, true, true, false, false, false, true, false, false, false, false] rfl rfl (take_ofW HT_.out HW_.out (by kernel_rfl)) (fun _ _ _ h => h) (Or.inl ⟨by rfl, ?_⟩) hHeld ?_ ?_
            rotate_left
            ·rintro w' ⟨s0, s1, s2, s3, s4, s5, s6, s7, s8, s9⟩
             go_simp
             with_reducible rfl
            rotate_left
            ·simp only [Act.put, sT, s0, s1, i64_w, i32_w]
             rfl
            refine pure_ (i := 4) (N := some 98) (v := ?_) (a' := ?_) #[true, true, true, true, true, false, false, true, false, false, false, false] rfl rfl (any_of HT_.out (by kernel_rfl)) (fun _ _ _ h => h) (Or.inl ⟨by rfl, ?_⟩) ?_ ?_
            rotate_left
            ·intro w'
             go_simp
             with_reducible rfl
            rotate_left
            ·simp only [Act.put, sT, s0, s1, i64_w, i32_w]
             rfl
            refine pure_ (i := 5) (N := some 99) (v := ?_) (a' := ?_) #[true, true, true, true, true, true, false, true, false, false, false, false] rfl rfl (any_of HT_.out (by kernel_rfl)) (fun _ _ _ h => h) (Or.inl ⟨by rfl, ?_⟩) ?_ ?_
            rotate_left
            ·intro w'
             go_simp
             with_reducible rfl
            rotate_left
            ·simp only [Act.put, sT, s0, s1, i64_w, i32_w]
             rfl
            refine take_ (i := 6) (N := some 100) (v := ?_) (a' := ?_) #[true, true, true, true, true, true, true, true, false, false, false, false] rfl rfl (take_ofW HT_.out HW_.out (by kernel_rfl)) (fun _ _ _ h => h) (Or.inl ⟨by rfl, ?_⟩) hHeld ?_ ?_
            rotate_left
            ·rintro w' ⟨s0, s1, s2, s3, s4, s5, s6, s7, s8, s9⟩
             go_simp
             with_reducible rfl
            rotate_left
            ·simp only [Act.put, sT, s0, s1, i64_w, i32_w]
             rfl
            refine take_ (i := 8) (N := some 102) (v := ?_) (a' := ?_) #[true, true, true, true, true, true, true, true, true, false, false, false] rfl rfl (take_ofW HT_.out HW_.out (by kernel_rfl)) (fun _ _ _ h => h) (Or.inl ⟨by rfl, ?_⟩) hHeld ?_ ?_
            rotate_left
            ·rintro w' ⟨s0, s1, s2, s3, s4, s5, s6, s7, s8, s9⟩
             go_simp
             with_reducible rfl
            rotate_left
            ·simp only [Act.put, sT, s0, s1, i64_w, i32_w]
             rfl
            refine pure_ (i := 9) (N := some 103) (v := ?_) (a' := ?_) #[true, true, true, true, true, true, true, true, true, true, false, false] rfl rfl (any_of HT_.out (by kernel_rfl)) (fun _ _ _ h => h) (Or.inl ⟨by rfl, ?_⟩) ?_ ?_
            rotate_left
            ·intro w'
             go_simp
             with_reducible rfl
            rotate_left
            ·simp only [Act.put, sT, s0, s1, i64_w, i32_w]
             rfl
            refine one_ (i := 10) (N := some 104) #[true, true, true, true, true, true, true, true, true, true, true, false] rfl rfl (one_of HT_.out (by kernel_rfl)) (by decide) (fun K hK => ?_)
            refine goes_ Try.func30 (by kernel_rfl) rfl #[.agg #[.int .i64 ag, .slice (some aj) ad.length ao, .slice aw aa.length ap, .slice au ac.length aq], .int .i64 ((rd_T51 ad ae).f0), .int .i64 (aa.length : Int)] (by rfl) rfl rfl (by (try simp only [List.map_toArray, List.map_cons, List.map_nil]); first | done | rfl | (simp only [List.length_drop, List.length_take]; rfl)) ?_
            with_reducible refine (portreeveref04_last.calls k3 ag _ _ ad _ _ aa _ _ ac ((rd_T51 ad ae).f0) (aa.length : Int) ai _ ?side1 ?side2 ?side3 ?side4 ?side5 ?side6 el.out).mono ?_
            (case side1 => repeat (first | exact (Kd.C_below az.out HB.out) | (with_reducible refine Kd.C_alloc ?_ _) | (with_reducible refine Kd.C_drewN ?_ _) | (with_reducible refine Kd.C_drew ?_)))
            (case side2 => exact HC0_1.out)
            (case side3 => repeat (first | exact (Kd.C_below ay.out HB.out) | (with_reducible refine Kd.C_alloc ?_ _) | (with_reducible refine Kd.C_drewN ?_ _) | (with_reducible refine Kd.C_drew ?_)))
            (case side4 => exact HC0_2.out)
            (case side5 => repeat (first | exact (Kd.C_below aI.out HB.out) | (with_reducible refine Kd.C_alloc ?_ _) | (with_reducible refine Kd.C_drewN ?_ _) | (with_reducible refine Kd.C_drew ?_)))
            (case side6 => exact HC0_3.out)
            rintro e w41 ⟨rfl, hb⟩
            refine ⟨_, rfl, ?_⟩
            have n0_ := Aside0.mk (blk_below (g := ak) (o := .cells #[.int .i64 ag, .slice (some aj) ad.length ao, .slice aw aa.length ap, .slice au ac.length aq] 46 (0, 0)) (zB ab.out) hb)
            have n1_ := Aside0.mk (below_step (by repeat (first | (with_reducible first | exact HB.out | apply pA | apply pN | apply pD | refine pS ?_ al.out) | exact HB.out)) hb)
            clear ab
            clear HB
            have ab := n0_
            have HB := n1_
            clear n0_ n1_
            (try clear hb)
            (try clear hb2)
            (try clear hk)
            (try clear hi)
            refine hK.out _ _ ⟨(blk_cell ab.out 0).trans rfl, (blk_cell ab.out 1).trans rfl, (blk_cell ab.out 2).trans rfl, (blk_cell ab.out 3).trans rfl, ((HB.out.cell (World.block_lt_of_cell? w _ hw264_0)).trans hw264_0), ((HB.out.cell (World.block_lt_of_cell? w _ hw264_1)).trans hw264_1), ((HB.out.cell (World.block_lt_of_cell? w _ hw264_2)).trans hw264_2), ((HB.out.cell (World.block_lt_of_cell? w _ hw264_3)).trans hw264_3), ((HB.out.cell (World.block_lt_of_cell? w _ hw264_4)).trans hw264_4), ((HB.out.cell (World.block_lt_of_cell? w _ hw264_5)).trans hw264_5)⟩ (fun hHeld => ?_)
            clear hK K
            refine norm_ (a' := ?_) ?_ ?_
            rotate_left
            ·show Act.put _ (some 104) _ = _
             simp only [Act.put, sT, s0, s1, i64_w, i32_w]
             rfl
            refine pure_ (i := 11) (N := some 9) (v := ?_) (a' := ?_) #[true, true, true, true, true, true, true, true, true, true, true, true] rfl rfl (any_of HT_.out (by kernel_rfl)) (fun _ _ _ h => h) (Or.inl ⟨by rfl, ?_⟩) ?_ ?_
            rotate_left
            ·intro w'
             go_simp
             with_reducible rfl
            rotate_left
            ·simp only [Act.put, sT, s0, s1, i64_w, i32_w]
             rfl
            refine done_ (done_of HT_.out (by kernel_rfl)) ?_
            go_upto_region 20 with (fail)
            go_cut [136] (fun v136 wc => ∃ (kq : Nat) (aV : Bool), v136 = .bool aV ∧ Aside0 (portreeveref04_Right.j4 kq ae aV ag ad aa ac = some r) ∧ Aside0 (kq ≤ k3) ∧ Aside0 (wc.heap[ak]? = some (.cells #[.int .i64 ag, (.slice (some aj) ad.length ao), (.slice aw aa.length ap), (.slice au ac.length aq)] 46 (0, 0))) ∧ Aside0 (Below w.heap.size w wc))
            case first =>
             have H := HC38.out
             clear HC38
             by_cases c42 : ai < 0
             ·rw [if_pos c42] at H
              have aC : decide (ai < 0) = true := decide_eq_true c42
              clear c42
              (first | rw [aC] | (simp only [i64_w, i32_w]; rw [aC]) | skip)
              have H' := Aside0.mk H
              clear H
              try go_wp2
              have n0_ := Aside0.mk (qD ab.out)
              have n1_ := Aside0.mk (pD HB.out)
              clear ab
              clear HB
              have ab := n0_
              have HB := n1_
              clear n0_ n1_
              refine start_ (n := 32) (S := fun w' => True) (ds := []) #[false, false, false, false, false, false, false, false, false, false, false, false, false, false, false, false, false, false, false, false, false, false, false, false, false, false, false, false, false, false, false, false] (by kernel_rfl) rfl rfl trivial (fun hHeld => ?_); refine with_tabW portreeveref04_Right.tab20 portreeveref04_Right.bits20 (fun HT_ HW_ => ?_)
              generalize w41.drew = w43 at ab HB hHeld ⊢
              refine pure_ (i := 0) (N := some 105) (v := ?_) (a' := ?_) #[true, false, false, false, false, false, false, false, false, false, false, false, false, false, false, false, false, false, false, false, false, false, false, false, false, false, false, false, false, false, false, false] rfl rfl (any_of HT_.out (by kernel_rfl)) (fun _ _ _ h => h) (Or.inl ⟨by rfl, ?_⟩) ?_ ?_
              rotate_left
              ·intro w'
               go_simp
               with_reducible rfl
              rotate_left
              ·simp only [Act.put, sT, s0, s1, i64_w, i32_w]
               rfl
              refine pure_ (i := 1) (N := some 106) (v := ?_) (a' := ?_) #[true, true, false, false, false, false, false, false, false, false, false, false, false, false, false, false, false, false, false, false, false, false, false, false, false, false, false, false, false, false, false, false] rfl rfl (any_of HT_.out (by kernel_rfl)) (fun _ _ _ h => h) (Or.inl ⟨by rfl, ?_⟩) ?_ ?_
              rotate_left
              ·intro w'
               go_simp
               with_reducible rfl
              rotate_left
              ·simp only [Act.put, sT, s0, s1, i64_w, i32_w]
               rfl
              refine pure_ (i := 2) (N := some 107) (v := ?_) (a' := ?_) #[true, true, true, false, false, false, false, false, false, false, false, false, false, false, false, false, false, false, false, false, false, false, false, false, false, false, false, false, false, false, false, false] rfl rfl (any_of HT_.out (by kernel_rfl)) (fun _ _ _ h => h) (Or.inl ⟨by rfl, ?_⟩) ?_ ?_
              rotate_left
              ·intro w'
               go_simp
               with_reducible rfl
              rotate_left
              ·simp only [Act.put, sT, s0, s1, i64_w, i32_w]
               rfl
              refine pure_ (i := 3) (N := some 108) (v := undef) (a' := ?_) #[true, true, true, true, false, false, false, false, false, false, false, false, false, false, false, false, false, false, false, false, false, false, false, false, false, false, false, false, false, false, false, false] rfl rfl (any_of HT_.out (by kernel_rfl)) (fun _ _ _ h => h) (Or.inr ⟨by rfl, rfl⟩) ?_ ?_
              rotate_left
              ·simp only [Act.put, sT, s0, s1, i64_w, i32_w]
               rfl
              refine pure_ (i := 4) (N := some 109) (v := undef) (a' := ?_) #[true, true, true, true, true, false, false, false, false, false, false, false, false, false, false, false, false, false, false, false, false, false, false, false, false, false, false, false, false, false, false, false] rfl rfl (any_of HT_.out (by kernel_rfl)) (fun _ _ _ h => h) (Or.inr ⟨by rfl, rfl⟩) ?_ ?_
              rotate_left
              ·simp only [Act.put, sT, s0, s1, i64_w, i32_w]
               rfl
              refine pure_ (i := 5) (N := some 110) (v := undef) (a' := ?_) #[true, true, true, true, true, true, false, false, false, false, false, false, false, false, false, false, false, false, false, false, false, false, false, false, false, false, false, false, false, false, false, false] rfl rfl (any_of HT_.out (by kernel_rfl)) (fun _ _ _ h => h) (Or.inr ⟨by rfl, rfl⟩) ?_ ?_
              rotate_left
              ·simp only [Act.put, sT, s0, s1, i64_w, i32_w]
               rfl
              refine pure_ (i := 6) (N := some 111) (v := undef) (a' := ?_) #[true, true, true, true, true, true, true, false, false, false, false, false, false, false, false, false, false, false, false, false, false, false, false, false, false, false, false, false, false, false, false, false] rfl rfl (any_of HT_.out (by kernel_rfl)) (fun _ _ _ h => h) (Or.inr ⟨by rfl, rfl⟩) ?_ ?_
              rotate_left
              ·simp only [Act.put, sT, s0, s1, i64_w, i32_w]
               rfl
              refine pure_ (i := 7) (N := some 112) (v := undef) (a' := ?_) #[true, true, true, true, true, true, true, true, false, false, false, false, false, false, false, false, false, false, false, false, false, false, false, false, false, false, false, false, false, false, false, false] rfl rfl (any_of HT_.out (by kernel_rfl)) (fun _ _ _ h => h) (Or.inr ⟨by rfl, rfl⟩) ?_ ?_
              rotate_left
              ·simp only [Act.put, sT, s0, s1, i64_w, i32_w]
               rfl
              refine pure_ (i := 8) (N := some 113) (v := undef) (a' := ?_) #[true, true, true, true, true, true, true, true, true, false, false, false, false, false, false, false, false, false, false, false, false, false, false, false, false, false, false, false, false, false, false, false] rfl rfl (any_of HT_.out (by kernel_rfl)) (fun _ _ _ h => h) (Or.inr ⟨by rfl, rfl⟩) ?_ ?_
              rotate_left
              ·simp only [Act.put, sT, s0, s1, i64_w, i32_w]
               rfl
              refine pure_ (i := 9) (N := some 114) (v := undef) (a' := ?_) #[true, true, true, true, true, true, true, true, true, true, false, false, false, false, false, false, false, false, false, false, false, false, false, false, false, false, false, false, false, false, false, false] rfl rfl (any_of HT_.out (by kernel_rfl)) (fun _ _ _ h => h) (Or.inr ⟨by rfl, rfl⟩) ?_ ?_
              rotate_left
              ·simp only [Act.put, sT, s0, s1, i64_w, i32_w]
               rfl
              refine pure_ (i := 10) (N := some 115) (v := undef) (a' := ?_) #[true, true, true, true, true, true, true, true, true, true, true, false, false, false, false, false, false, false, false, false, false, false, false, false, false, false, false, false, false, false, false, false] rfl rfl (any_of HT_.out (by kernel_rfl)) (fun _ _ _ h => h) (Or.inr ⟨by rfl, rfl⟩) ?_ ?_
              rotate_left
              ·simp only [Act.put, sT, s0, s1, i64_w, i32_w]
               rfl
              refine pure_ (i := 11) (N := some 116) (v := undef) (a' := ?_) #[true, true, true, true, true, true, true, true, true, true, true, true, false, false, false, false, false, false, false, false, false, false, false, false, false, false, false, false, false, false, false, false] rfl rfl (any_of HT_.out (by kernel_rfl)) (fun _ _ _ h => h) (Or.inr ⟨by rfl, rfl⟩) ?_ ?_
              rotate_left
              ·simp only [Act.put, sT, s0, s1, i64_w, i32_w]
               rfl
              refine pure_ (i := 12) (N := some 117) (v := undef) (a' := ?_) #[true, true, true, true, true, true, true, true, true, true, true, true, true, false, false, false, false, false, false, false, false, false, false, false, false, false, false, false, false, false, false, false] rfl rfl (any_of HT_.out (by kernel_rfl)) (fun _ _ _ h => h) (Or.inr ⟨by rfl, rfl⟩) ?_ ?_
              rotate_left
              ·simp only [Act.put, sT, s0, s1, i64_w, i32_w]
               rfl
              refine pure_ (i := 13) (N := some 118) (v := undef) (a' := ?_) #[true, true, true, true, true, true, true, true, true, true, true, true, true, true, false, false, false, false, false, false, false, false, false, false, false, false, false, false, false, false, false, false] rfl rfl (any_of HT_.out (by kernel_rfl)) (fun _ _ _ h => h) (Or.inr ⟨by rfl, rfl⟩) ?_ ?_
              rotate_left
              ·simp only [Act.put, sT, s0, s1, i64_w, i32_w]
               rfl
              refine pure_ (i := 14) (N := some 119) (v := undef) (a' := ?_) #[true, true, true, true, true, true, true, true, true, true, true, true, true, true, true, false, false, false, false, false, false, false, false, false, false, false, false, false, false, false, false, false] rfl rfl (any_of HT_.out (by kernel_rfl)) (fun _ _ _ h => h) (Or.inr ⟨by rfl, rfl⟩) ?_ ?_
              rotate_left
              ·simp only [Act.put, sT, s0, s1, i64_w, i32_w]
               rfl
              refine pure_ (i := 15) (N := some 120) (v := undef) (a' := ?_) #[true, true, true, true, true, true, true, true, true, true, true, true, true, true, true, true, false, false, false, false, false, false, false, false, false, false, false, false, false, false, false, false] rfl rfl (any_of HT_.out (by kernel_rfl)) (fun _ _ _ h => h) (Or.inr ⟨by rfl, rfl⟩) ?_ ?_
              rotate_left
              ·simp only [Act.put, sT, s0, s1, i64_w, i32_w]
               rfl
              refine pure_ (i := 16) (N := some 121) (v := ?_) (a' := ?_) #[true, true, true, true, true, true, true, true, true, true, true, true, true, true, true, true, true, false, false, false, false, false, false, false, false, false, false, false, false, false, false, false] rfl rfl (any_of HT_.out (by kernel_rfl)) (fun _ _ _ h => h) (Or.inl ⟨by rfl, ?_⟩) ?_ ?_
              rotate_left
              ·intro w'
               go_simp
               with_reducible rfl
              rotate_left
              ·simp only [Act.put, sT, s0, s1, i64_w, i32_w]
               rfl
              refine pure_ (i := 17) (N := some 122) (v := ?_) (a' := ?_) #[true, true, true, true, true, true, true, true, true, true, true, true, true, true, true, true, true, true, false, false, false, false, false, false, false, false, false, false, false, false, false, false] rfl rfl (any_of HT_.out (by kernel_rfl)) (fun _ _ _ h => h) (Or.inl ⟨by rfl, ?_⟩) ?_ ?_
              rotate_left
              ·intro w'
               go_simp
               with_reducible rfl
              rotate_left
              ·simp only [Act.put, sT, s0, s1, i64_w, i32_w]
               rfl
              refine pure_ (i := 18) (N := some 123) (v := undef) (a' := ?_) #[true, true, true, true, true, true, true, true, true, true, true, true, true, true, true, true, true, true, true, false, false, false, false, false, false, false, false, false, false, false, false, false] rfl rfl (any_of HT_.out (by kernel_rfl)) (fun _ _ _ h => h) (Or.inr ⟨by rfl, rfl⟩) ?_ ?_
              rotate_left
              ·simp only [Act.put, sT, s0, s1, i64_w, i32_w]
               rfl
              refine pure_ (i := 19) (N := some 124) (v := undef) (a' := ?_) #[true, true, true, true, true, true, true, true, true, true, true, true, true, true, true, true, true, true, true, true, false, false, false, false, false, false, false, false, false, false, false, false] rfl rfl (any_of HT_.out (by kernel_rfl)) (fun _ _ _ h => h) (Or.inr ⟨by rfl, rfl⟩) ?_ ?_
              rotate_left
              ·simp only [Act.put, sT, s0, s1, i64_w, i32_w]
               rfl
              refine pure_ (i := 20) (N := some 125) (v := undef) (a' := ?_) #[true, true, true, true, true, true, true, true, true, true, true, true, true, true, true, true, true, true, true, true, true, false, false, false, false, false, false, false, false, false, false, false] rfl rfl (any_of HT_.out (by kernel_rfl)) (fun _ _ _ h => h) (Or.inr ⟨by rfl, rfl⟩) ?_ ?_
              rotate_left
              ·simp only [Act.put, sT, s0, s1, i64_w, i32_w]
               rfl
              refine pure_ (i := 21) (N := some 126) (v := undef) (a' := ?_) #[true, true, true, true, true, true, true, true, true, true, true, true, true, true, true, true, true, true, true, true, true, true, false, false, false, false, false, false, false, false, false, false] rfl rfl (any_of HT_.out (by kernel_rfl)) (fun _ _ _ h => h) (Or.inr ⟨by rfl, rfl⟩) ?_ ?_
              rotate_left
              ·simp only [Act.put, sT, s0, s1, i64_w, i32_w]
               rfl
              refine pure_ (i := 22) (N := some 127) (v := undef) (a' := ?_) #[true, true, true, true, true, true, true, true, true, true, true, true, true, true, true, true, true, true, true, true, true, true, true, false, false, false, false, false, false, false, false, false] rfl rfl (any_of HT_.out (by kernel_rfl)) (fun _ _ _ h => h) (Or.inr ⟨by rfl, rfl⟩) ?_ ?_
              rotate_left
              ·simp only [Act.put, sT, s0, s1, i64_w, i32_w]
               rfl
              refine pure_ (i := 23) (N := some 128) (v := undef) (a' := ?_) #[true, true, true, true, true, true, true, true, true, true, true, true, true, true, true, true, true, true, true, true, true, true, true, true, false, false, false, false, false, false, false, false] rfl rfl (any_of HT_.out (by kernel_rfl)) (fun _ _ _ h => h) (Or.inr ⟨by rfl, rfl⟩) ?_ ?_
              rotate_left
              ·simp only [Act.put, sT, s0, s1, i64_w, i32_w]
               rfl
              refine pure_ (i := 24) (N := some 129) (v := undef) (a' := ?_) #[true, true, true, true, true, true, true, true, true, true, true, true, true, true, true, true, true, true, true, true, true, true, true, true, true, false, false, false, false, false, false, false] rfl rfl (any_of HT_.out (by kernel_rfl)) (fun _ _ _ h => h) (Or.inr ⟨by rfl, rfl⟩) ?_ ?_
              rotate_left
              ·simp only [Act.put, sT, s0, s1, i64_w, i32_w]
               rfl
              refine pure_ (i := 25) (N := some 130) (v := undef) (a' := ?_) #[true, true, true, true, true, true, true, true, true, true, true, true, true, true, true, true, true, true, true, true, true, true, true, true, true, true, false, false, false, false, false, false] rfl rfl (any_of HT_.out (by kernel_rfl)) (fun _ _ _ h => h) (Or.inr ⟨by rfl, rfl⟩) ?_ ?_
              rotate_left
              ·simp only [Act.put, sT, s0, s1, i64_w, i32_w]
               rfl
              refine pure_ (i := 26) (N := some 131) (v := undef) (a' := ?_) #[true, true, true, true, true, true, true, true, true, true, true, true, true, true, true, true, true, true, true, true, true, true, true, true, true, true, true, false, false, false, false, false] rfl rfl (any_of HT_.out (by kernel_rfl)) (fun _ _ _ h => h) (Or.inr ⟨by rfl, rfl⟩) ?_ ?_
              rotate_left
              ·simp only [Act.put, sT, s0, s1, i64_w, i32_w]
               rfl
              refine pure_ (i := 27) (N := some 132) (v := undef) (a' := ?_) #[true, true, true, true, true, true, true, true, true, true, true, true, true, true, true, true, true, true, true, true, true, true, true, true, true, true, true, true, false, false, false, false] rfl rfl (any_of HT_.out (by kernel_rfl)) (fun _ _ _ h => h) (Or.inr ⟨by rfl, rfl⟩) ?_ ?_
              rotate_left
              ·simp only [Act.put, sT, s0, s1, i64_w, i32_w]
               rfl
              refine pure_ (i := 28) (N := some 133) (v := undef) (a' := ?_) #[true, true, true, true, true, true, true, true, true, true, true, true, true, true, true, true, true, true, true, true, true, true, true, true, true, true, true, true, true, false, false, false] rfl rfl (any_of HT_.out (by kernel_rfl)) (fun _ _ _ h => h) (Or.inr ⟨by rfl, rfl⟩) ?_ ?_
              rotate_left
              ·simp only [Act.put, sT, s0, s1, i64_w, i32_w]
               rfl
              refine pure_ (i := 29) (N := some 134) (v := undef) (a' := ?_) #[true, true, true, true, true, true, true, true, true, true, true, true, true, true, true, true, true, true, true, true, true, true, true, true, true, true, true, true, true, true, false, false] rfl rfl (any_of HT_.out (by kernel_rfl)) (fun _ _ _ h => h) (Or.inr ⟨by rfl, rfl⟩) ?_ ?_
              rotate_left
              ·simp only [Act.put, sT, s0, s1, i64_w, i32_w]
               rfl
              refine pure_ (i := 30) (N := some 135) (v := undef) (a' := ?_) #[true, true, true, true, true, true, true, true, true, true, true, true, true, true, true, true, true, true, true, true, true, true, true, true, true, true, true, true, true, true, true, false] rfl rfl (any_of HT_.out (by kernel_rfl)) (fun _ _ _ h => h) (Or.inr ⟨by rfl, rfl⟩) ?_ ?_
              rotate_left
              ·simp only [Act.put, sT, s0, s1, i64_w, i32_w]
               rfl
              refine pure_ (i := 31) (N := some 136) (v := ?_) (a' := ?_) #[true, true, true, true, true, true, true, true, true, true, true, true, true, true, true, true, true, true, true, true, true, true, true, true, true, true, true, true, true, true, true, true] rfl rfl (any_of HT_.out (by kernel_rfl)) (fun _ _ _ h => h) (Or.inl ⟨by rfl, ?_⟩) ?_ ?_
              rotate_left
              ·intro w'
               go_simp
               with_reducible rfl
              rotate_left
              ·simp only [Act.put, sT, s0, s1, i64_w, i32_w]
               rfl
              refine done_ (done_of HT_.out (by kernel_rfl)) ?_
              try go_wp2
              (first | go_meet | (refine Met.intro ?_; go_step; (repeat apply Exists.intro); refine ⟨?rel, ?eq⟩; case eq => (simp only [aC]; rfl)))
              case rel => exact ⟨_, (true), (by first | rfl | (simp; done) | (simp [*]; done)), H', ⟨by have := aF.out; have := aG.out; have := aK.out; first | omega | exact Nat.le_refl _⟩, ⟨zB ab.out⟩, ⟨by repeat (first | (with_reducible first | exact HB.out | apply pA | apply pN | apply pD | refine pS ?_ al.out) | exact HB.out)⟩⟩
             ·rw [if_neg c42] at H
              have aC : decide (ai < 0) = false := decide_eq_false c42
              clear c42
              (first | rw [aC] | (simp only [i64_w, i32_w]; rw [aC]) | skip)
              by_cases c44 : 0 ≤ ai
              ·rw [if_pos c44] at H
               have bv : decide (0 ≤ ai) = true := decide_eq_true c44
               clear c44
               by_cases c45 : ai < (aa.length : Int)
               ·rw [if_pos c45] at H
                have bw : decide (ai < (aa.length : Int)) = true := decide_eq_true c45
                clear c45
                by_cases c46 : ((rd_T56 aa ai).f2) = ((rd_T51 ad ae).f4)
                ·rw [if_pos c46] at H
                 have aW : (((rd_T56 aa ai).f2) == ((rd_T51 ad ae).f4)) = true := beq_iff_eq.mpr c46
                 have bL : (((rd_T56 aa ai).f2) != ((rd_T51 ad ae).f4)) = false := bne_eq_false_iff_eq.mpr c46
                 clear c46
                 have H' := Aside0.mk H
                 clear H
                 try go_wp2
                 have n0_ := Aside0.mk (qD ab.out)
                 have n1_ := Aside0.mk (pD HB.out)
                 clear ab
                 clear HB
                 have ab := n0_
                 have HB := n1_
                 clear n0_ n1_
                 have p266 : 0 ≤ (ai : Int) := of_decide_eq_true (by first | (with_reducible assumption) | assumption)
                 have q266 : ai < (aa.length : Int) := of_decide_eq_true (by first | (with_reducible assumption) | assumption)
                 obtain ⟨am, e266, hx266_0, hx266_1, hx266_2, hx266_3, hx266_4⟩ := at_T56 ay.out ai p266 q266
                 have hw266_4 := hx266_4
                 have hw266_3 := hx266_3
                 have hw266_2 := hx266_2
                 have hw266_1 := hx266_1
                 have hw266_0 := hx266_0
                 cases e266
                 replace hx266_0 := (HB.out.cell (World.block_lt_of_cell? w _ hx266_0)).trans hx266_0
                 replace hx266_1 := (HB.out.cell (World.block_lt_of_cell? w _ hx266_1)).trans hx266_1
                 replace hx266_2 := (HB.out.cell (World.block_lt_of_cell? w _ hx266_2)).trans hx266_2
                 replace hx266_3 := (HB.out.cell (World.block_lt_of_cell? w _ hx266_3)).trans hx266_3
                 replace hx266_4 := (HB.out.cell (World.block_lt_of_cell? w _ hx266_4)).trans hx266_4
                 replace p266 := eq_true p266
                 replace q266 := eq_true q266
                 have p267 : 0 ≤ (ae : Int) := of_decide_eq_true (by first | (with_reducible assumption) | assumption)
                 have q267 : ae < (ad.length : Int) := of_decide_eq_true (by first | (with_reducible assumption) | assumption)
                 obtain ⟨cf, e267, hx267_0, hx267_1, hx267_2, hx267_3, hx267_4, hx267_5⟩ := at_T51 az.out ae p267 q267
                 have hw267_5 := hx267_5
                 have hw267_4 := hx267_4
                 have hw267_3 := hx267_3
                 have hw267_2 := hx267_2
                 have hw267_1 := hx267_1
                 have hw267_0 := hx267_0
                 obtain rfl : aj = cf := (by injection e267)
                 replace hx267_0 := (HB.out.cell (World.block_lt_of_cell? w _ hx267_0)).trans hx267_0
                 replace hx267_1 := (HB.out.cell (World.block_lt_of_cell? w _ hx267_1)).trans hx267_1
                 replace hx267_2 := (HB.out.cell (World.block_lt_of_cell? w _ hx267_2)).trans hx267_2
                 replace hx267_3 := (HB.out.cell (World.block_lt_of_cell? w _ hx267_3)).trans hx267_3
                 replace hx267_4 := (HB.out.cell (World.block_lt_of_cell? w _ hx267_4)).trans hx267_4
                 replace hx267_5 := (HB.out.cell (World.block_lt_of_cell? w _ hx267_5)).trans hx267_5
                 replace p267 := eq_true p267
                 replace q267 := eq_true q267
                 have p268 : 0 ≤ (ai : Int) := of_decide_eq_true (by first | (with_reducible assumption) | assumption)
                 have q268 : ai < (aa.length : Int) := of_decide_eq_true (by first | (with_reducible assumption) | assumption)
                 obtain ⟨dQ, e268, hx268_0, hx268_1, hx268_2, hx268_3, hx268_4⟩ := at_T56 ay.out ai p268 q268
                 have hw268_4 := hx268_4
                 have hw268_3 := hx268_3
                 have hw268_2 := hx268_2
                 have hw268_1 := hx268_1
                 have hw268_0 := hx268_0
                 obtain rfl : am = dQ := (by injection e268)
                 replace hx268_0 := (HB.out.cell (World.block_lt_of_cell? w _ hx268_0)).trans hx268_0
                 replace hx268_1 := (HB.out.cell (World.block_lt_of_cell? w _ hx268_1)).trans hx268_1
                 replace hx268_2 := (HB.out.cell (World.block_lt_of_cell? w _ hx268_2)).trans hx268_2
                 replace hx268_3 := (HB.out.cell (World.block_lt_of_cell? w _ hx268_3)).trans hx268_3
                 replace hx268_4 := (HB.out.cell (World.block_lt_of_cell? w _ hx268_4)).trans hx268_4
                 replace p268 := eq_true p268
                 replace q268 := eq_true q268
                 have p269 : 0 ≤ (ae : Int) := of_decide_eq_true (by first | (with_reducible assumption) | assumption)
                 have q269 : ae < (ad.length : Int) := of_decide_eq_true (by first | (with_reducible assumption) | assumption)
                 obtain ⟨dR, e269, hx269_0, hx269_1, hx269_2, hx269_3, hx269_4, hx269_5⟩ := at_T51 az.out ae p269 q269
                 have hw269_5 := hx269_5
                 have hw269_4 := hx269_4
                 have hw269_3 := hx269_3
                 have hw269_2 := hx269_2
                 have hw269_1 := hx269_1
                 have hw269_0 := hx269_0
                 obtain rfl : aj = dR := (by injection e269)
                 replace hx269_0 := (HB.out.cell (World.block_lt_of_cell? w _ hx269_0)).trans hx269_0
                 replace hx269_1 := (HB.out.cell (World.block_lt_of_cell? w _ hx269_1)).trans hx269_1
                 replace hx269_2 := (HB.out.cell (World.block_lt_of_cell? w _ hx269_2)).trans hx269_2
                 replace hx269_3 := (HB.out.cell (World.block_lt_of_cell? w _ hx269_3)).trans hx269_3
                 replace hx269_4 := (HB.out.cell (World.block_lt_of_cell? w _ hx269_4)).trans hx269_4
                 replace hx269_5 := (HB.out.cell (World.block_lt_of_cell? w _ hx269_5)).trans hx269_5
                 replace p269 := eq_true p269
                 replace q269 := eq_true q269
                 refine start_ (n := 32) (S := fun w' => w'.cell? ⟨ak, 0, none⟩ = some (.int .i64 ag) ∧ w'.cell? ⟨ak, 1, none⟩ = some (.slice (some aj) ad.length ao) ∧ w'.cell? ⟨ak, 2, none⟩ = some (.slice (some am) aa.length ap) ∧ w'.cell? ⟨ak, 3, none⟩ = some (.slice au ac.length aq) ∧ w'.cell? (am.add ((ai).toNat * 5)) = some (.int .i64 ((rd_T56 aa ai).f0)) ∧ w'.cell? ⟨(am.add ((ai).toNat * 5)).block, (am.add ((ai).toNat * 5)).off + 1, none⟩ = some (.int .i64 ((rd_T56 aa ai).f1)) ∧ w'.cell? ⟨(am.add ((ai).toNat * 5)).block, (am.add ((ai).toNat * 5)).off + 2, none⟩ = some (.int .u64 ((rd_T56 aa ai).f2)) ∧ w'.cell? ⟨(am.add ((ai).toNat * 5)).block, (am.add ((ai).toNat * 5)).off + 3, none⟩ = some (.int .u64 ((rd_T56 aa ai).f3)) ∧ w'.cell? ⟨(am.add ((ai).toNat * 5)).block, (am.add ((ai).toNat * 5)).off + 4, none⟩ = some (.int .i64 ((rd_T56 aa ai).f4)) ∧ w'.cell? (aj.add ((ae).toNat * 6)) = some (.int .i64 ((rd_T51 ad ae).f0)) ∧ w'.cell? ⟨(aj.add ((ae).toNat * 6)).block, (aj.add ((ae).toNat * 6)).off + 1, none⟩ = some (.int .i64 ((rd_T51 ad ae).f1)) ∧ w'.cell? ⟨(aj.add ((ae).toNat * 6)).block, (aj.add ((ae).toNat * 6)).off + 2, none⟩ = some (.int .u32 ((rd_T51 ad ae).f2)) ∧ w'.cell? ⟨(aj.add ((ae).toNat * 6)).block, (aj.add ((ae).toNat * 6)).off + 3, none⟩ = some (.string ((rd_T51 ad ae).f3)) ∧ w'.cell? ⟨(aj.add ((ae).toNat * 6)).block, (aj.add ((ae).toNat * 6)).off + 4, none⟩ = some (.int .u64 ((rd_T51 ad ae).f4)) ∧ w'.cell? ⟨(aj.add ((ae).toNat * 6)).block, (aj.add ((ae).toNat * 6)).off + 5, none⟩ = some (.int .u64 ((rd_T51 ad ae).f5)) ∧ w'.cell? (am.add ((ai).toNat * 5)) = some (.int .i64 ((rd_T56 aa ai).f0)) ∧ w'.cell? ⟨(am.add ((ai).toNat * 5)).block, (am.add ((ai).toNat * 5)).off + 1, none⟩ = some (.int .i64 ((rd_T56 aa ai).f1)) ∧ w'.cell? ⟨(am.add ((ai).toNat * 5)).block, (am.add ((ai).toNat * 5)).off + 2, none⟩ = some (.int .u64 ((rd_T56 aa ai).f2)) ∧ w'.cell? ⟨(am.add ((ai).toNat * 5)).block, (am.add ((ai).toNat * 5)).off + 3, none⟩ = some (.int .u64 ((rd_T56 aa ai).f3)) ∧ w'.cell? ⟨(am.add ((ai).toNat * 5)).block, (am.add ((ai).toNat * 5)).off + 4, none⟩ = some (.int .i64 ((rd_T56 aa ai).f4)) ∧ w'.cell? (aj.add ((ae).toNat * 6)) = some (.int .i64 ((rd_T51 ad ae).f0)) ∧ w'.cell? ⟨(aj.add ((ae).toNat * 6)).block, (aj.add ((ae).toNat * 6)).off + 1, none⟩ = some (.int .i64 ((rd_T51 ad ae).f1)) ∧ w'.cell? ⟨(aj.add ((ae).toNat * 6)).block, (aj.add ((ae).toNat * 6)).off + 2, none⟩ = some (.int .u32 ((rd_T51 ad ae).f2)) ∧ w'.cell? ⟨(aj.add ((ae).toNat * 6)).block, (aj.add ((ae).toNat * 6)).off + 3, none⟩ = some (.string ((rd_T51 ad ae).f3)) ∧ w'.cell? ⟨(aj.add ((ae).toNat * 6)).block, (aj.add ((ae).toNat * 6)).off + 4, none⟩ = some (.int .u64 ((rd_T51 ad ae).f4)) ∧ w'.cell? ⟨(aj.add ((ae).toNat * 6)).block, (aj.add ((ae).toNat * 6)).off + 5, none⟩ = some (.int .u64 ((rd_T51 ad ae).f5))) (ds := []) #[false, false, false, false, false, false, false, false, false, false, false, false, false, false, false, false, false, false, false, false, false, false, false, false, false, false, false, false, false, false, false, false] (by kernel_rfl) rfl rfl ⟨(blk_cell ab.out 0).trans rfl, (blk_cell ab.out 1).trans rfl, (blk_cell ab.out 2).trans rfl, (blk_cell ab.out 3).trans rfl, ((HB.out.cell (World.block_lt_of_cell? w _ hw266_0)).trans hw266_0), ((HB.out.cell (World.block_lt_of_cell? w _ hw266_1)).trans hw266_1), ((HB.out.cell (World.block_lt_of_cell? w _ hw266_2)).trans hw266_2), ((HB.out.cell (World.block_lt_of_cell? w _ hw266_3)).trans hw266_3), ((HB.out.cell (World.block_lt_of_cell? w _ hw266_4)).trans hw266_4), ((HB.out.cell (World.block_lt_of_cell? w _ hw267_0)).trans hw267_0), ((HB.out.cell (World.block_lt_of_cell? w _ hw267_1)).trans hw267_1), ((HB.out.cell (World.block_lt_of_cell? w _ hw267_2)).trans hw267_2), ((HB.out.cell (World.block_lt_of_cell? w _ hw267_3)).trans hw267_3), ((HB.out.cell (World.block_lt_of_cell? w _ hw267_4)).trans hw267_4), ((HB.out.cell (World.block_lt_of_cell? w _ hw267_5)).trans hw267_5), ((HB.out.cell (World.block_lt_of_cell? w _ hw268_0)).trans hw268_0), ((HB.out.cell (World.block_lt_of_cell? w _ hw268_1)).trans hw268_1), ((HB.out.cell (World.block_lt_of_cell? w _ hw268_2)).trans hw268_2), ((HB.out.cell (World.block_lt_of_cell? w _ hw268_3)).trans hw268_3), ((HB.out.cell (World.block_lt_of_cell? w _ hw268_4)).trans hw268_4), ((HB.out.cell (World.block_lt_of_cell? w _ hw269_0)).trans hw269_0), ((HB.out.cell (World.block_lt_of_cell? w _ hw269_1)).trans hw269_1), ((HB.out.cell (World.block_lt_of_cell? w _ hw269_2)).trans hw269_2), ((HB.out.cell (World.block_lt_of_cell? w _ hw269_3)).trans hw269_3), ((HB.out.cell (World.block_lt_of_cell? w _ hw269_4)).trans hw269_4), ((HB.out.cell (World.block_lt_of_cell? w _ hw269_5)).trans hw269_5)⟩ (fun hHeld => ?_); refine with_tabW portreeveref04_Right.tab20 portreeveref04_Right.bits20 (fun HT_ HW_ => ?_)
                 generalize w41.drew = w47 at ab HB hx266_0 hx266_1 hx266_2 hx266_3 hx266_4 hx267_0 hx267_1 hx267_2 hx267_3 hx267_4 hx267_5 hx268_0 hx268_1 hx268_2 hx268_3 hx268_4 hx269_0 hx269_1 hx269_2 hx269_3 hx269_4 hx269_5 hHeld ⊢
                 refine pure_ (i := 0) (N := some 105) (v := ?_) (a' := ?_) #[true, false, false, false, false, false, false, false, false, false, false, false, false, false, false, false, false, false, false, false, false, false, false, false, false, false, false, false, false, false, false, false] rfl rfl (any_of HT_.out (by kernel_rfl)) (fun _ _ _ h => h) (Or.inl ⟨by rfl, ?_⟩) ?_ ?_
                 rotate_left
                 ·intro w'
                  go_simp
                  with_reducible rfl
                 rotate_left
                 ·simp only [Act.put, sT, s0, s1, i64_w, i32_w]
                  rfl
                 refine pure_ (i := 1) (N := some 106) (v := ?_) (a' := ?_) #[true, true, false, false, false, false, false, false, false, false, false, false, false, false, false, false, false, false, false, false, false, false, false, false, false, false, false, false, false, false, false, false] rfl rfl (any_of HT_.out (by kernel_rfl)) (fun _ _ _ h => h) (Or.inl ⟨by rfl, ?_⟩) ?_ ?_
                 rotate_left
                 ·intro w'
                  go_simp
                  with_reducible rfl
                 rotate_left
                 ·simp only [Act.put, sT, s0, s1, i64_w, i32_w]
                  rfl
                 refine pure_ (i := 2) (N := some 107) (v := ?_) (a' := ?_) #[true, true, true, false, false, false, false, false, false, false, false, false, false, false, false, false, false, false, false, false, false, false, false, false, false, false, false, false, false, false, false, false] rfl rfl (any_of HT_.out (by kernel_rfl)) (fun _ _ _ h => h) (Or.inl ⟨by rfl, ?_⟩) ?_ ?_
                 rotate_left
                 ·intro w'
                  go_simp
                  with_reducible rfl
                 rotate_left
                 ·simp only [Act.put, sT, s0, s1, i64_w, i32_w]
                  rfl
                 refine pure_ (i := 3) (N := some 108) (v := ?_) (a' := ?_) #[true, true, true, true, false, false, false, false, false, false, false, false, false, false, false, false, false, false, false, false, false, false, false, false, false, false, false, false, false, false, false, false] rfl rfl (any_of HT_.out (by kernel_rfl)) (fun _ _ _ h => h) (Or.inl ⟨by rfl, ?_⟩) ?_ ?_
                 rotate_left
                 ·intro w'
                  go_simp
                  with_reducible rfl
                 rotate_left
                 ·simp only [Act.put, sT, s0, s1, i64_w, i32_w]
                  rfl
                 refine pure_ (i := 5) (N := some 110) (v := ?_) (a' := ?_) #[true, true, true, true, false, true, false, false, false, false, false, false, false, false, false, false, false, false, false, false, false, false, false, false, false, false, false, false, false, false, false, false] rfl rfl (any_of HT_.out (by kernel_rfl)) (fun _ _ _ h => h) (Or.inl ⟨by rfl, ?_⟩) ?_ ?_
                 rotate_left
                 ·intro w'
                  go_simp
                  with_reducible rfl
                 rotate_left
                 ·simp only [Act.put, sT, s0, s1, i64_w, i32_w]
                  rfl
                 refine pure_ (i := 9) (N := some 114) (v := ?_) (a' := ?_) #[true, true, true, true, false, true, false, false, false, true, false, false, false, false, false, false, false, false, false, false, false, false, false, false, false, false, false, false, false, false, false, false] rfl rfl (any_of HT_.out (by kernel_rfl)) (fun _ _ _ h => h) (Or.inl ⟨by rfl, ?_⟩) ?_ ?_
                 rotate_left
                 ·intro w'
                  go_simp
                  with_reducible rfl
                 rotate_left
                 ·simp only [Act.put, sT, s0, s1, i64_w, i32_w]
                  rfl
                 refine pure_ (i := 11) (N := some 116) (v := ?_) (a' := ?_) #[true, true, true, true, false, true, false, false, false, true, false, true, false, false, false, false, false, false, false, false, false, false, false, false, false, false, false, false, false, false, false, false] rfl rfl (any_of HT_.out (by kernel_rfl)) (fun _ _ _ h => h) (Or.inl ⟨by rfl, ?_⟩) ?_ ?_
                 rotate_left
                 ·intro w'
                  go_simp
                  with_reducible rfl
                 rotate_left
                 ·simp only [Act.put, sT, s0, s1, i64_w, i32_w]
                  rfl
                 refine take_ (i := 4) (N := some 109) (v := ?_) (a' := ?_) #[true, true, true, true, true, true, false, false, false, true, false, true, false, false, false, false, false, false, false, false, false, false, false, false, false, false, false, false, false, false, false, false] rfl rfl (take_ofW HT_.out HW_.out (by kernel_rfl)) (fun _ _ _ h => h) (Or.inl ⟨by rfl, ?_⟩) hHeld ?_ ?_
                 rotate_left
                 ·rintro w' ⟨s0, s1, s2, s3, s4, s5, s6, s7, s8, s9, s10, s11, s12, s13, s14, s15, s16, s17, s18, s19, s20, s21, s22, s23, s24, s25⟩
                  go_simp
                  with_reducible rfl
                 rotate_left
                 ·simp only [Act.put, sT, s0, s1, i64_w, i32_w]
                  rfl
                 refine pure_ (i := 6) (N := some 111) (v := ?_) (a' := ?_) #[true, true, true, true, true, true, true, false, false, true, false, true, false, false, false, false, false, false, false, false, false, false, false, false, false, false, false, false, false, false, false, false] rfl rfl (any_of HT_.out (by kernel_rfl)) (fun _ _ _ h => h) (Or.inl ⟨by rfl, ?_⟩) ?_ ?_
                 rotate_left
                 ·intro w'
                  go_simp
                  with_reducible rfl
                 rotate_left
                 ·simp only [Act.put, sT, s0, s1, i64_w, i32_w]
                  rfl
                 refine pure_ (i := 7) (N := some 112) (v := ?_) (a' := ?_) #[true, true, true, true, true, true, true, true, false, true, false, true, false, false, false, false, false, false, false, false, false, false, false, false, false, false, false, false, false, false, false, false] rfl rfl (any_of HT_.out (by kernel_rfl)) (fun _ _ _ h => h) (Or.inl ⟨by rfl, ?_⟩) ?_ ?_
                 rotate_left
                 ·intro w'
                  go_simp
                  with_reducible rfl
                 rotate_left
                 ·simp only [Act.put, sT, s0, s1, i64_w, i32_w]
                  rfl
                 refine take_ (i := 8) (N := some 113) (v := ?_) (a' := ?_) #[true, true, true, true, true, true, true, true, true, true, false, true, false, false, false, false, false, false, false, false, false, false, false, false, false, false, false, false, false, false, false, false] rfl rfl (take_ofW HT_.out HW_.out (by kernel_rfl)) (fun _ _ _ h => h) (Or.inl ⟨by rfl, ?_⟩) hHeld ?_ ?_
                 rotate_left
                 ·rintro w' ⟨s0, s1, s2, s3, s4, s5, s6, s7, s8, s9, s10, s11, s12, s13, s14, s15, s16, s17, s18, s19, s20, s21, s22, s23, s24, s25⟩
                  go_simp
                  with_reducible rfl
                 rotate_left
                 ·simp only [Act.put, sT, s0, s1, i64_w, i32_w]
                  rfl
                 refine take_ (i := 10) (N := some 115) (v := ?_) (a' := ?_) #[true, true, true, true, true, true, true, true, true, true, true, true, false, false, false, false, false, false, false, false, false, false, false, false, false, false, false, false, false, false, false, false] rfl rfl (take_ofW HT_.out HW_.out (by kernel_rfl)) (fun _ _ _ h => h) (Or.inl ⟨by rfl, ?_⟩) hHeld ?_ ?_
                 rotate_left
                 ·rintro w' ⟨s0, s1, s2, s3, s4, s5, s6, s7, s8, s9, s10, s11, s12, s13, s14, s15, s16, s17, s18, s19, s20, s21, s22, s23, s24, s25⟩
                  go_simp
                  with_reducible rfl
                 rotate_left
                 ·simp only [Act.put, sT, s0, s1, i64_w, i32_w]
                  rfl
                 refine pure_ (i := 12) (N := some 117) (v := ?_) (a' := ?_) #[true, true, true, true, true, true, true, true, true, true, true, true, true, false, false, false, false, false, false, false, false, false, false, false, false, false, false, false, false, false, false, false] rfl rfl (any_of HT_.out (by kernel_rfl)) (fun _ _ _ h => h) (Or.inl ⟨by rfl, ?_⟩) ?_ ?_
                 rotate_left
                 ·intro w'
                  go_simp
                  with_reducible rfl
                 rotate_left
                 ·simp only [Act.put, sT, s0, s1, i64_w, i32_w]
                  rfl
                 refine pure_ (i := 13) (N := some 118) (v := ?_) (a' := ?_) #[true, true, true, true, true, true, true, true, true, true, true, true, true, true, false, false, false, false, false, false, false, false, false, false, false, false, false, false, false, false, false, false] rfl rfl (any_of HT_.out (by kernel_rfl)) (fun _ _ _ h => h) (Or.inl ⟨by rfl, ?_⟩) ?_ ?_
                 rotate_left
                 ·intro w'
                  go_simp
                  with_reducible rfl
                 rotate_left
                 ·simp only [Act.put, sT, s0, s1, i64_w, i32_w]
                  rfl
                 refine take_ (i := 14) (N := some 119) (v := ?_) (a' := ?_) #[true, true, true, true, true, true, true, true, true, true, true, true, true, true, true, false, false, false, false, false, false, false, false, false, false, false, false, false, false, false, false, false] rfl rfl (take_ofW HT_.out HW_.out (by kernel_rfl)) (fun _ _ _ h => h) (Or.inl ⟨by rfl, ?_⟩) hHeld ?_ ?_
                 rotate_left
                 ·rintro w' ⟨s0, s1, s2, s3, s4, s5, s6, s7, s8, s9, s10, s11, s12, s13, s14, s15, s16, s17, s18, s19, s20, s21, s22, s23, s24, s25⟩
                  go_simp
                  with_reducible rfl
                 rotate_left
                 ·simp only [Act.put, sT, s0, s1, i64_w, i32_w]
                  rfl
                 refine pure_ (i := 15) (N := some 120) (v := ?_) (a' := ?_) #[true, true, true, true, true, true, true, true, true, true, true, true, true, true, true, true, false, false, false, false, false, false, false, false, false, false, false, false, false, false, false, false] rfl rfl (any_of HT_.out (by kernel_rfl)) (fun _ _ _ h => h) (Or.inl ⟨by rfl, ?_⟩) ?_ ?_
                 rotate_left
                 ·intro w'
                  go_simp
                  with_reducible rfl
                 rotate_left
                 ·simp only [Act.put, sT, s0, s1, i64_w, i32_w]
                  rfl
                 refine pure_ (i := 16) (N := some 121) (v := ?_) (a' := ?_) #[true, true, true, true, true, true, true, true, true, true, true, true, true, true, true, true, true, false, false, false, false, false, false, false, false, false, false, false, false, false, false, false] rfl rfl (any_of HT_.out (by kernel_rfl)) (fun _ _ _ h => h) (Or.inl ⟨by rfl, ?_⟩) ?_ ?_
                 rotate_left
                 ·intro w'
                  go_simp
                  with_reducible rfl
                 rotate_left
                 ·simp only [Act.put, sT, s0, s1, i64_w, i32_w]
                  rfl
                 refine pure_ (i := 17) (N := some 122) (v := ?_) (a' := ?_) #[true, true, true, true, true, true, true, true, true, true, true, true, true, true, true, true, true, true, false, false, false, false, false, false, false, false, false, false, false, false, false, false] rfl rfl (any_of HT_.out (by kernel_rfl)) (fun _ _ _ h => h) (Or.inl ⟨by rfl, ?_⟩) ?_ ?_
                 rotate_left
                 ·intro w'
                  go_simp
                  with_reducible rfl
                 rotate_left
                 ·simp only [Act.put, sT, s0, s1, i64_w, i32_w]
                  rfl
                 refine pure_ (i := 18) (N := some 123) (v := ?_) (a' := ?_) #[true, true, true, true, true, true, true, true, true, true, true, true, true, true, true, true, true, true, true, false, false, false, false, false, false, false, false, false, false, false, false, false] rfl rfl (any_of HT_.out (by kernel_rfl)) (fun _ _ _ h => h) (Or.inl ⟨by rfl, ?_⟩) ?_ ?_
                 rotate_left
                 ·intro w'
                  go_simp
                  with_reducible rfl
                 rotate_left
                 ·simp only [Act.put, sT, s0, s1, i64_w, i32_w]
                  rfl
                 refine pure_ (i := 20) (N := some 125) (v := ?_) (a' := ?_) #[true, true, true, true, true, true, true, true, true, true, true, true, true, true, true, true, true, true, true, false, true, false, false, false, false, false, false, false, false, false, false, false] rfl rfl (any_of HT_.out (by kernel_rfl)) (fun _ _ _ h => h) (Or.inl ⟨by rfl, ?_⟩) ?_ ?_
                 rotate_left
                 ·intro w'
                  go_simp
                  with_reducible rfl
                 rotate_left
                 ·simp only [Act.put, sT, s0, s1, i64_w, i32_w]
                  rfl
                 refine pure_ (i := 24) (N := some 129) (v := ?_) (a' := ?_) #[true, true, true, true, true, true, true, true, true, true, true, true, true, true, true, true, true, true, true, false, true, false, false, false, true, false, false, false, false, false, false, false] rfl rfl (any_of HT_.out (by kernel_rfl)) (fun _ _ _ h => h) (Or.inl ⟨by rfl, ?_⟩) ?_ ?_
                 rotate_left
                 ·intro w'
                  go_simp
                  with_reducible rfl
                 rotate_left
                 ·simp only [Act.put, sT, s0, s1, i64_w, i32_w]
                  rfl
                 refine pure_ (i := 26) (N := some 131) (v := ?_) (a' := ?_) #[true, true, true, true, true, true, true, true, true, true, true, true, true, true, true, true, true, true, true, false, true, false, false, false, true, false, true, false, false, false, false, false] rfl rfl (any_of HT_.out (by kernel_rfl)) (fun _ _ _ h => h) (Or.inl ⟨by rfl, ?_⟩) ?_ ?_
                 rotate_left
                 ·intro w'
                  go_simp
                  with_reducible rfl
                 rotate_left
                 ·simp only [Act.put, sT, s0, s1, i64_w, i32_w]
                  rfl
                 refine take_ (i := 19) (N := some 124) (v := ?_) (a' := ?_) #[true, true, true, true, true, true, true, true, true, true, true, true, true, true, true, true, true, true, true, true, true, false, false, false, true, false, true, false, false, false, false, false] rfl rfl (take_ofW HT_.out HW_.out (by kernel_rfl)) (fun _ _ _ h => h) (Or.inl ⟨by rfl, ?_⟩) hHeld ?_ ?_
                 rotate_left
                 ·rintro w' ⟨s0, s1, s2, s3, s4, s5, s6, s7, s8, s9, s10, s11, s12, s13, s14, s15, s16, s17, s18, s19, s20, s21, s22, s23, s24, s25⟩
                  go_simp
                  with_reducible rfl
                 rotate_left
                 ·simp only [Act.put, sT, s0, s1, i64_w, i32_w]
                  rfl
                 refine pure_ (i := 21) (N := some 126) (v := ?_) (a' := ?_) #[true, true, true, true, true, true, true, true, true, true, true, true, true, true, true, true, true, true, true, true, true, true, false, false, true, false, true, false, false, false, false, false] rfl rfl (any_of HT_.out (by kernel_rfl)) (fun _ _ _ h => h) (Or.inl ⟨by rfl, ?_⟩) ?_ ?_
                 rotate_left
                 ·intro w'
                  go_simp
                  with_reducible rfl
                 rotate_left
                 ·simp only [Act.put, sT, s0, s1, i64_w, i32_w]
                  rfl
                 refine pure_ (i := 22) (N := some 127) (v := ?_) (a' := ?_) #[true, true, true, true, true, true, true, true, true, true, true, true, true, true, true, true, true, true, true, true, true, true, true, false, true, false, true, false, false, false, false, false] rfl rfl (any_of HT_.out (by kernel_rfl)) (fun _ _ _ h => h) (Or.inl ⟨by rfl, ?_⟩) ?_ ?_
                 rotate_left
                 ·intro w'
                  go_simp
                  with_reducible rfl
                 rotate_left
                 ·simp only [Act.put, sT, s0, s1, i64_w, i32_w]
                  rfl
                 refine take_ (i := 23) (N := some 128) (v := ?_) (a' := ?_) #[true, true, true, true, true, true, true, true, true, true, true, true, true, true, true, true, true, true, true, true, true, true, true, true, true, false, true, false, false, false, false, false] rfl rfl (take_ofW HT_.out HW_.out (by kernel_rfl)) (fun _ _ _ h => h) (Or.inl ⟨by rfl, ?_⟩) hHeld ?_ ?_
                 rotate_left
                 ·rintro w' ⟨s0, s1, s2, s3, s4, s5, s6, s7, s8, s9, s10, s11, s12, s13, s14, s15, s16, s17, s18, s19, s20, s21, s22, s23, s24, s25⟩
                  go_simp
                  with_reducible rfl
                 rotate_left
                 ·simp only [Act.put, sT, s0, s1, i64_w, i32_w]
                  rfl
                 refine take_ (i := 25) (N := some 130) (v := ?_) (a' := ?_) #[true, true, true, true, true, true, true, true, true, true, true, true, true, true, true, true, true, true, true, true, true, true, true, true, true, true, true, false, false, false, false, false] rfl rfl (take_ofW HT_.out HW_.out (by kernel_rfl)) (fun _ _ _ h => h) (Or.inl ⟨by rfl, ?_⟩) hHeld ?_ ?_
                 rotate_left
                 ·rintro w' ⟨s0, s1, s2, s3, s4, s5, s6, s7, s8, s9, s10, s11, s12, s13, s14, s15, s16, s17, s18, s19, s20, s21, s22, s23, s24, s25⟩
                  go_simp
                  with_reducible rfl
                 rotate_left
                 ·simp only [Act.put, sT, s0, s1, i64_w, i32_w]
                  rfl
                 refine pure_ (i := 27) (N := some 132) (v := ?_) (a' := ?_) #[true, true, true, true, true, true, true, true, true, true, true, true, true, true, true, true, true, true, true, true, true, true, true, true, true, true, true, true, false, false, false, false] rfl rfl (any_of HT_.out (by kernel_rfl)) (fun _ _ _ h => h) (Or.inl ⟨by rfl, ?_⟩) ?_ ?_
                 rotate_left
                 ·intro w'
                  go_simp
                  with_reducible rfl
                 rotate_left
                 ·simp only [Act.put, sT, s0, s1, i64_w, i32_w]
                  rfl
                 refine pure_ (i := 28) (N := some 133) (v := ?_) (a' := ?_) #[true, true, true, true, true, true, true, true, true, true, true, true, true, true, true, true, true, true, true, true, true, true, true, true, true, true, true, true, true, false, false, false] rfl rfl (any_of HT_.out (by kernel_rfl)) (fun _ _ _ h => h) (Or.inl ⟨by rfl, ?_⟩) ?_ ?_
                 rotate_left
                 ·intro w'
                  go_simp
                  with_reducible rfl
                 rotate_left
                 ·simp only [Act.put, sT, s0, s1, i64_w, i32_w]
                  rfl
                 refine take_ (i := 29) (N := some 134) (v := ?_) (a' := ?_) #[true, true, true, true, true, true, true, true, true, true, true, true, true, true, true, true, true, true, true, true, true, true, true, true, true, true, true, true, true, true, false, false] rfl rfl (take_ofW HT_.out HW_.out (by kernel_rfl)) (fun _ _ _ h => h) (Or.inl ⟨by rfl, ?_⟩) hHeld ?_ ?_
                 rotate_left
                 ·rintro w' ⟨s0, s1, s2, s3, s4, s5, s6, s7, s8, s9, s10, s11, s12, s13, s14, s15, s16, s17, s18, s19, s20, s21, s22, s23, s24, s25⟩
                  go_simp
                  with_reducible rfl
                 rotate_left
                 ·simp only [Act.put, sT, s0, s1, i64_w, i32_w]
                  rfl
                 refine pure_ (i := 30) (N := some 135) (v := ?_) (a' := ?_) #[true, true, true, true, true, true, true, true, true, true, true, true, true, true, true, true, true, true, true, true, true, true, true, true, true, true, true, true, true, true, true, false] rfl rfl (any_of HT_.out (by kernel_rfl)) (fun _ _ _ h => h) (Or.inl ⟨by rfl, ?_⟩) ?_ ?_
                 rotate_left
                 ·intro w'
                  go_simp
                  with_reducible rfl
                 rotate_left
                 ·simp only [Act.put, sT, s0, s1, i64_w, i32_w]
                  rfl
                 refine pure_ (i := 31) (N := some 136) (v := ?_) (a' := ?_) #[true, true, true, true, true, true, true, true, true, true, true, true, true, true, true, true, true, true, true, true, true, true, true, true, true, true, true, true, true, true, true, true] rfl rfl (any_of HT_.out (by kernel_rfl)) (fun _ _ _ h => h) (Or.inl ⟨by rfl, ?_⟩) ?_ ?_
                 rotate_left
                 ·intro w'
                  go_simp
                  with_reducible rfl
                 rotate_left
                 ·simp only [Act.put, sT, s0, s1, i64_w, i32_w]
                  rfl
                 refine done_ (done_of HT_.out (by kernel_rfl)) ?_
                 try go_wp2
                 (first | go_meet | (refine Met.intro ?_; go_step; (repeat apply Exists.intro); refine ⟨?rel, ?eq⟩; case eq => (simp only [aC, bv, bw, aW]; rfl)))
                 case rel => exact ⟨_, ((((rd_T56 aa ai).f3) != ((rd_T51 ad ae).f5))), (by first | rfl | (simp; done) | (simp [*]; done)), H', ⟨by have := aF.out; have := aG.out; have := aK.out; first | omega | exact Nat.le_refl _⟩, ⟨zB ab.out⟩, ⟨by repeat (first | (with_reducible first | exact HB.out | apply pA | apply pN | apply pD | refine pS ?_ al.out) | exact HB.out)⟩⟩
                ·rw [if_neg c46] at H
                 have aW : (((rd_T56 aa ai).f2) == ((rd_T51 ad ae).f4)) = false := beq_eq_false_iff_ne.mpr c46
                 have bL : (((rd_T56 aa ai).f2) != ((rd_T51 ad ae).f4)) = true := bne_iff_ne.mpr c46
                 have H' := Aside0.mk H
                 clear H
                 try go_wp2
                 have n0_ := Aside0.mk (qD ab.out)
                 have n1_ := Aside0.mk (pD HB.out)
                 clear ab
                 clear HB
                 have ab := n0_
                 have HB := n1_
                 clear n0_ n1_
                 have p266 : 0 ≤ (ai : Int) := of_decide_eq_true (by first | (with_reducible assumption) | assumption)
                 have q266 : ai < (aa.length : Int) := of_decide_eq_true (by first | (with_reducible assumption) | assumption)
                 obtain ⟨am, e266, hx266_0, hx266_1, hx266_2, hx266_3, hx266_4⟩ := at_T56 ay.out ai p266 q266
                 have hw266_4 := hx266_4
                 have hw266_3 := hx266_3
                 have hw266_2 := hx266_2
                 have hw266_1 := hx266_1
                 have hw266_0 := hx266_0
                 cases e266
                 replace hx266_0 := (HB.out.cell (World.block_lt_of_cell? w _ hx266_0)).trans hx266_0
                 replace hx266_1 := (HB.out.cell (World.block_lt_of_cell? w _ hx266_1)).trans hx266_1
                 replace hx266_2 := (HB.out.cell (World.block_lt_of_cell? w _ hx266_2)).trans hx266_2
                 replace hx266_3 := (HB.out.cell (World.block_lt_of_cell? w _ hx266_3)).trans hx266_3
                 replace hx266_4 := (HB.out.cell (World.block_lt_of_cell? w _ hx266_4)).trans hx266_4
                 replace p266 := eq_true p266
                 replace q266 := eq_true q266
                 have p267 : 0 ≤ (ae : Int) := of_decide_eq_true (by first | (with_reducible assumption) | assumption)
                 have q267 : ae < (ad.length : Int) := of_decide_eq_true (by first | (with_reducible assumption) | assumption)
                 obtain ⟨cf, e267, hx267_0, hx267_1, hx267_2, hx267_3, hx267_4, hx267_5⟩ := at_T51 az.out ae p267 q267
                 have hw267_5 := hx267_5
                 have hw267_4 := hx267_4
                 have hw267_3 := hx267_3
                 have hw267_2 := hx267_2
                 have hw267_1 := hx267_1
                 have hw267_0 := hx267_0
                 obtain rfl : aj = cf := (by injection e267)
                 replace hx267_0 := (HB.out.cell (World.block_lt_of_cell? w _ hx267_0)).trans hx267_0
                 replace hx267_1 := (HB.out.cell (World.block_lt_of_cell? w _ hx267_1)).trans hx267_1
                 replace hx267_2 := (HB.out.cell (World.block_lt_of_cell? w _ hx267_2)).trans hx267_2
                 replace hx267_3 := (HB.out.cell (World.block_lt_of_cell? w _ hx267_3)).trans hx267_3
                 replace hx267_4 := (HB.out.cell (World.block_lt_of_cell? w _ hx267_4)).trans hx267_4
                 replace hx267_5 := (HB.out.cell (World.block_lt_of_cell? w _ hx267_5)).trans hx267_5
                 replace p267 := eq_true p267
                 replace q267 := eq_true q267
                 refine start_ (n := 32) (S := fun w' => w'.cell? ⟨ak, 0, none⟩ = some (.int .i64 ag) ∧ w'.cell? ⟨ak, 1, none⟩ = some (.slice (some aj) ad.length ao) ∧ w'.cell? ⟨ak, 2, none⟩ = some (.slice (some am) aa.length ap) ∧ w'.cell? ⟨ak, 3, none⟩ = some (.slice au ac.length aq) ∧ w'.cell? (am.add ((ai).toNat * 5)) = some (.int .i64 ((rd_T56 aa ai).f0)) ∧ w'.cell? ⟨(am.add ((ai).toNat * 5)).block, (am.add ((ai).toNat * 5)).off + 1, none⟩ = some (.int .i64 ((rd_T56 aa ai).f1)) ∧ w'.cell? ⟨(am.add ((ai).toNat * 5)).block, (am.add ((ai).toNat * 5)).off + 2, none⟩ = some (.int .u64 ((rd_T56 aa ai).f2)) ∧ w'.cell? ⟨(am.add ((ai).toNat * 5)).block, (am.add ((ai).toNat * 5)).off + 3, none⟩ = some (.int .u64 ((rd_T56 aa ai).f3)) ∧ w'.cell? ⟨(am.add ((ai).toNat * 5)).block, (am.add ((ai).toNat * 5)).off + 4, none⟩ = some (.int .i64 ((rd_T56 aa ai).f4)) ∧ w'.cell? (aj.add ((ae).toNat * 6)) = some (.int .i64 ((rd_T51 ad ae).f0)) ∧ w'.cell? ⟨(aj.add ((ae).toNat * 6)).block, (aj.add ((ae).toNat * 6)).off + 1, none⟩ = some (.int .i64 ((rd_T51 ad ae).f1)) ∧ w'.cell? ⟨(aj.add ((ae).toNat * 6)).block, (aj.add ((ae).toNat * 6)).off + 2, none⟩ = some (.int .u32 ((rd_T51 ad ae).f2)) ∧ w'.cell? ⟨(aj.add ((ae).toNat * 6)).block, (aj.add ((ae).toNat * 6)).off + 3, none⟩ = some (.string ((rd_T51 ad ae).f3)) ∧ w'.cell? ⟨(aj.add ((ae).toNat * 6)).block, (aj.add ((ae).toNat * 6)).off + 4, none⟩ = some (.int .u64 ((rd_T51 ad ae).f4)) ∧ w'.cell? ⟨(aj.add ((ae).toNat * 6)).block, (aj.add ((ae).toNat * 6)).off + 5, none⟩ = some (.int .u64 ((rd_T51 ad ae).f5))) (ds := []) #[false, false, false, false, false, false, false, false, false, false, false, false, false, false, false, false, false, false, false, false, false, false, false, false, false, false, false, false, false, false, false, false] (by kernel_rfl) rfl rfl ⟨(blk_cell ab.out 0).trans rfl, (blk_cell ab.out 1).trans rfl, (blk_cell ab.out 2).trans rfl, (blk_cell ab.out 3).trans rfl, ((HB.out.cell (World.block_lt_of_cell? w _ hw266_0)).trans hw266_0), ((HB.out.cell (World.block_lt_of_cell? w _ hw266_1)).trans hw266_1), ((HB.out.cell (World.block_lt_of_cell? w _ hw266_2)).trans hw266_2), ((HB.out.cell (World.block_lt_of_cell? w _ hw266_3)).trans hw266_3), ((HB.out.cell (World.block_lt_of_cell? w _ hw266_4)).trans hw266_4), ((HB.out.cell (World.block_lt_of_cell? w _ hw267_0)).trans hw267_0), ((HB.out.cell (World.block_lt_of_cell? w _ hw267_1)).trans hw267_1), ((HB.out.cell (World.block_lt_of_cell? w _ hw267_2)).trans hw267_2), ((HB.out.cell (World.block_lt_of_cell? w _ hw267_3)).trans hw267_3), ((HB.out.cell (World.block_lt_of_cell? w _ hw267_4)).trans hw267_4), ((HB.out.cell (World.block_lt_of_cell? w _ hw267_5)).trans hw267_5)⟩ (fun hHeld => ?_); refine with_tabW portreeveref04_Right.tab20 portreeveref04_Right.bits20 (fun HT_ HW_ => ?_)
                 generalize w41.drew = w48 at ab HB hx266_0 hx266_1 hx266_2 hx266_3 hx266_4 hx267_0 hx267_1 hx267_2 hx267_3 hx267_4 hx267_5 hHeld ⊢
                 refine pure_ (i := 0) (N := some 105) (v := ?_) (a' := ?_) #[true, false, false, false, false, false, false, false, false, false, false, false, false, false, false, false, false, false, false, false, false, false, false, false, false, false, false, false, false, false, false, false] rfl rfl (any_of HT_.out (by kernel_rfl)) (fun _ _ _ h => h) (Or.inl ⟨by rfl, ?_⟩) ?_ ?_
                 rotate_left
                 ·intro w'
                  go_simp
                  with_reducible rfl
                 rotate_left
                 ·simp only [Act.put, sT, s0, s1, i64_w, i32_w]
                  rfl
                 refine pure_ (i := 1) (N := some 106) (v := ?_) (a' := ?_) #[true, true, false, false, false, false, false, false, false, false, false, false, false, false, false, false, false, false, false, false, false, false, false, false, false, false, false, false, false, false, false, false] rfl rfl (any_of HT_.out (by kernel_rfl)) (fun _ _ _ h => h) (Or.inl ⟨by rfl, ?_⟩) ?_ ?_
                 rotate_left
                 ·intro w'
                  go_simp
                  with_reducible rfl
                 rotate_left
                 ·simp only [Act.put, sT, s0, s1, i64_w, i32_w]
                  rfl
                 refine pure_ (i := 2) (N := some 107) (v := ?_) (a' := ?_) #[true, true, true, false, false, false, false, false, false, false, false, false, false, false, false, false, false, false, false, false, false, false, false, false, false, false, false, false, false, false, false, false] rfl rfl (any_of HT_.out (by kernel_rfl)) (fun _ _ _ h => h) (Or.inl ⟨by rfl, ?_⟩) ?_ ?_
                 rotate_left
                 ·intro w'
                  go_simp
                  with_reducible rfl
                 rotate_left
                 ·simp only [Act.put, sT, s0, s1, i64_w, i32_w]
                  rfl
                 refine pure_ (i := 3) (N := some 108) (v := ?_) (a' := ?_) #[true, true, true, true, false, false, false, false, false, false, false, false, false, false, false, false, false, false, false, false, false, false, false, false, false, false, false, false, false, false, false, false] rfl rfl (any_of HT_.out (by kernel_rfl)) (fun _ _ _ h => h) (Or.inl ⟨by rfl, ?_⟩) ?_ ?_
                 rotate_left
                 ·intro w'
                  go_simp
                  with_reducible rfl
                 rotate_left
                 ·simp only [Act.put, sT, s0, s1, i64_w, i32_w]
                  rfl
                 refine pure_ (i := 5) (N := some 110) (v := ?_) (a' := ?_) #[true, true, true, true, false, true, false, false, false, false, false, false, false, false, false, false, false, false, false, false, false, false, false, false, false, false, false, false, false, false, false, false] rfl rfl (any_of HT_.out (by kernel_rfl)) (fun _ _ _ h => h) (Or.inl ⟨by rfl, ?_⟩) ?_ ?_
                 rotate_left
                 ·intro w'
                  go_simp
                  with_reducible rfl
                 rotate_left
                 ·simp only [Act.put, sT, s0, s1, i64_w, i32_w]
                  rfl
                 refine pure_ (i := 9) (N := some 114) (v := ?_) (a' := ?_) #[true, true, true, true, false, true, false, false, false, true, false, false, false, false, false, false, false, false, false, false, false, false, false, false, false, false, false, false, false, false, false, false] rfl rfl (any_of HT_.out (by kernel_rfl)) (fun _ _ _ h => h) (Or.inl ⟨by rfl, ?_⟩) ?_ ?_
                 rotate_left
                 ·intro w'
                  go_simp
                  with_reducible rfl
                 rotate_left
                 ·simp only [Act.put, sT, s0, s1, i64_w, i32_w]
                  rfl
                 refine pure_ (i := 11) (N := some 116) (v := ?_) (a' := ?_) #[true, true, true, true, false, true, false, false, false, true, false, true, false, false, false, false, false, false, false, false, false, false, false, false, false, false, false, false, false, false, false, false] rfl rfl (any_of HT_.out (by kernel_rfl)) (fun _ _ _ h => h) (Or.inl ⟨by rfl, ?_⟩) ?_ ?_
                 rotate_left
                 ·intro w'
                  go_simp
                  with_reducible rfl
                 rotate_left
                 ·simp only [Act.put, sT, s0, s1, i64_w, i32_w]
                  rfl
                 refine take_ (i := 4) (N := some 109) (v := ?_) (a' := ?_) #[true, true, true, true, true, true, false, false, false, true, false, true, false, false, false, false, false, false, false, false, false, false, false, false, false, false, false, false, false, false, false, false] rfl rfl (take_ofW HT_.out HW_.out (by kernel_rfl)) (fun _ _ _ h => h) (Or.inl ⟨by rfl, ?_⟩) hHeld ?_ ?_
                 rotate_left
                 ·rintro w' ⟨s0, s1, s2, s3, s4, s5, s6, s7, s8, s9, s10, s11, s12, s13, s14⟩
                  go_simp
                  with_reducible rfl
                 rotate_left
                 ·simp only [Act.put, sT, s0, s1, i64_w, i32_w]
                  rfl
                 refine pure_ (i := 6) (N := some 111) (v := ?_) (a' := ?_) #[true, true, true, true, true, true, true, false, false, true, false, true, false, false, false, false, false, false, false, false, false, false, false, false, false, false, false, false, false, false, false, false] rfl rfl (any_of HT_.out (by kernel_rfl)) (fun _ _ _ h => h) (Or.inl ⟨by rfl, ?_⟩) ?_ ?_
                 rotate_left
                 ·intro w'
                  go_simp
                  with_reducible rfl
                 rotate_left
                 ·simp only [Act.put, sT, s0, s1, i64_w, i32_w]
                  rfl
                 refine pure_ (i := 7) (N := some 112) (v := ?_) (a' := ?_) #[true, true, true, true, true, true, true, true, false, true, false, true, false, false, false, false, false, false, false, false, false, false, false, false, false, false, false, false, false, false, false, false] rfl rfl (any_of HT_.out (by kernel_rfl)) (fun _ _ _ h => h) (Or.inl ⟨by rfl, ?_⟩) ?_ ?_
                 rotate_left
                 ·intro w'
                  go_simp
                  with_reducible rfl
                 rotate_left
                 ·simp only [Act.put, sT, s0, s1, i64_w, i32_w]
                  rfl
                 refine take_ (i := 8) (N := some 113) (v := ?_) (a' := ?_) #[true, true, true, true, true, true, true, true, true, true, false, true, false, false, false, false, false, false, false, false, false, false, false, false, false, false, false, false, false, false, false, false] rfl rfl (take_ofW HT_.out HW_.out (by kernel_rfl)) (fun _ _ _ h => h) (Or.inl ⟨by rfl, ?_⟩) hHeld ?_ ?_
                 rotate_left
                 ·rintro w' ⟨s0, s1, s2, s3, s4, s5, s6, s7, s8, s9, s10, s11, s12, s13, s14⟩
                  go_simp
                  with_reducible rfl
                 rotate_left
                 ·simp only [Act.put, sT, s0, s1, i64_w, i32_w]
                  rfl
                 refine take_ (i := 10) (N := some 115) (v := ?_) (a' := ?_) #[true, true, true, true, true, true, true, true, true, true, true, true, false, false, false, false, false, false, false, false, false, false, false, false, false, false, false, false, false, false, false, false] rfl rfl (take_ofW HT_.out HW_.out (by kernel_rfl)) (fun _ _ _ h => h) (Or.inl ⟨by rfl, ?_⟩) hHeld ?_ ?_
                 rotate_left
                 ·rintro w' ⟨s0, s1, s2, s3, s4, s5, s6, s7, s8, s9, s10, s11, s12, s13, s14⟩
                  go_simp
                  with_reducible rfl
                 rotate_left
                 ·simp only [Act.put, sT, s0, s1, i64_w, i32_w]
                  rfl
                 refine pure_ (i := 12) (N := some 117) (v := ?_) (a' := ?_) #[true, true, true, true, true, true, true, true, true, true, true, true, true, false, false, false, false, false, false, false, false, false, false, false, false, false, false, false, false, false, false, false] rfl rfl (any_of HT_.out (by kernel_rfl)) (fun _ _ _ h => h) (Or.inl ⟨by rfl, ?_⟩) ?_ ?_
                 rotate_left
                 ·intro w'
                  go_simp
                  with_reducible rfl
                 rotate_left
                 ·simp only [Act.put, sT, s0, s1, i64_w, i32_w]
                  rfl
                 refine pure_ (i := 13) (N := some 118) (v := ?_) (a' := ?_) #[true, true, true, true, true, true, true, true, true, true, true, true, true, true, false, false, false, false, false, false, false, false, false, false, false, false, false, false, false, false, false, false] rfl rfl (any_of HT_.out (by kernel_rfl)) (fun _ _ _ h => h) (Or.inl ⟨by rfl, ?_⟩) ?_ ?_
                 rotate_left
                 ·intro w'
                  go_simp
                  with_reducible rfl
                 rotate_left
                 ·simp only [Act.put, sT, s0, s1, i64_w, i32_w]
                  rfl
                 refine take_ (i := 14) (N := some 119) (v := ?_) (a' := ?_) #[true, true, true, true, true, true, true, true, true, true, true, true, true, true, true, false, false, false, false, false, false, false, false, false, false, false, false, false, false, false, false, false] rfl rfl (take_ofW HT_.out HW_.out (by kernel_rfl)) (fun _ _ _ h => h) (Or.inl ⟨by rfl, ?_⟩) hHeld ?_ ?_
                 rotate_left
                 ·rintro w' ⟨s0, s1, s2, s3, s4, s5, s6, s7, s8, s9, s10, s11, s12, s13, s14⟩
                  go_simp
                  with_reducible rfl
                 rotate_left
                 ·simp only [Act.put, sT, s0, s1, i64_w, i32_w]
                  rfl
                 refine pure_ (i := 15) (N := some 120) (v := ?_) (a' := ?_) #[true, true, true, true, true, true, true, true, true, true, true, true, true, true, true, true, false, false, false, false, false, false, false, false, false, false, false, false, false, false, false, false] rfl rfl (any_of HT_.out (by kernel_rfl)) (fun _ _ _ h => h) (Or.inl ⟨by rfl, ?_⟩) ?_ ?_
                 rotate_left
                 ·intro w'
                  go_simp
                  with_reducible rfl
                 rotate_left
                 ·simp only [Act.put, sT, s0, s1, i64_w, i32_w]
                  rfl
                 refine pure_ (i := 16) (N := some 121) (v := ?_) (a' := ?_) #[true, true, true, true, true, true, true, true, true, true, true, true, true, true, true, true, true, false, false, false, false, false, false, false, false, false, false, false, false, false, false, false] rfl rfl (any_of HT_.out (by kernel_rfl)) (fun _ _ _ h => h) (Or.inl ⟨by rfl, ?_⟩) ?_ ?_
                 rotate_left
                 ·intro w'
                  go_simp
                  with_reducible rfl
                 rotate_left
                 ·simp only [Act.put, sT, s0, s1, i64_w, i32_w]
                  rfl
                 refine pure_ (i := 17) (N := some 122) (v := ?_) (a' := ?_) #[true, true, true, true, true, true, true, true, true, true, true, true, true, true, true, true, true, true, false, false, false, false, false, false, false, false, false, false, false, false, false, false] rfl rfl (any_of HT_.out (by kernel_rfl)) (fun _ _ _ h => h) (Or.inl ⟨by rfl, ?_⟩) ?_ ?_
                 rotate_left
                 ·intro w'
                  go_simp
                  with_reducible rfl
                 rotate_left
                 ·simp only [Act.put, sT, s0, s1, i64_w, i32_w]
                  rfl
                 refine pure_ (i := 18) (N := some 123) (v := undef) (a' := ?_) #[true, true, true, true, true, true, true, true, true, true, true, true, true, true, true, true, true, true, true, false, false, false, false, false, false, false, false, false, false, false, false, false] rfl rfl (any_of HT_.out (by kernel_rfl)) (fun _ _ _ h => h) (Or.inr ⟨by rfl, rfl⟩) ?_ ?_
                 rotate_left
                 ·simp only [Act.put, sT, s0, s1, i64_w, i32_w]
                  rfl
                 refine pure_ (i := 19) (N := some 124) (v := undef) (a' := ?_) #[true, true, true, true, true, true, true, true, true, true, true, true, true, true, true, true, true, true, true, true, false, false, false, false, false, false, false, false, false, false, false, false] rfl rfl (any_of HT_.out (by kernel_rfl)) (fun _ _ _ h => h) (Or.inr ⟨by rfl, rfl⟩) ?_ ?_
                 rotate_left
                 ·simp only [Act.put, sT, s0, s1, i64_w, i32_w]
                  rfl
                 refine pure_ (i := 20) (N := some 125) (v := undef) (a' := ?_) #[true, true, true, true, true, true, true, true, true, true, true, true, true, true, true, true, true, true, true, true, true, false, false, false, false, false, false, false, false, false, false, false] rfl rfl (any_of HT_.out (by kernel_rfl)) (fun _ _ _ h => h) (Or.inr ⟨by rfl, rfl⟩) ?_ ?_
                 rotate_left
                 ·simp only [Act.put, sT, s0, s1, i64_w, i32_w]
                  rfl
                 refine pure_ (i := 21) (N := some 126) (v := undef) (a' := ?_) #[true, true, true, true, true, true, true, true, true, true, true, true, true, true, true, true, true, true, true, true, true, true, false, false, false, false, false, false, false, false, false, false] rfl rfl (any_of HT_.out (by kernel_rfl)) (fun _ _ _ h => h) (Or.inr ⟨by rfl, rfl⟩) ?_ ?_
                 rotate_left
                 ·simp only [Act.put, sT, s0, s1, i64_w, i32_w]
                  rfl
                 refine pure_ (i := 22) (N := some 127) (v := undef) (a' := ?_) #[true, true, true, true, true, true, true, true, true, true, true, true, true, true, true, true, true, true, true, true, true, true, true, false, false, false, false, false, false, false, false, false] rfl rfl (any_of HT_.out (by kernel_rfl)) (fun _ _ _ h => h) (Or.inr ⟨by rfl, rfl⟩) ?_ ?_
                 rotate_left
                 ·simp only [Act.put, sT, s0, s1, i64_w, i32_w]
                  rfl
                 refine pure_ (i := 23) (N := some 128) (v := undef) (a' := ?_) #[true, true, true, true, true, true, true, true, true, true, true, true, true, true, true, true, true, true, true, true, true, true, true, true, false, false, false, false, false, false, false, false] rfl rfl (any_of HT_.out (by kernel_rfl)) (fun _ _ _ h => h) (Or.inr ⟨by rfl, rfl⟩) ?_ ?_
                 rotate_left
                 ·simp only [Act.put, sT, s0, s1, i64_w, i32_w]
                  rfl
                 refine pure_ (i := 24) (N := some 129) (v := undef) (a' := ?_) #[true, true, true, true, true, true, true, true, true, true, true, true, true, true, true, true, true, true, true, true, true, true, true, true, true, false, false, false, false, false, false, false] rfl rfl (any_of HT_.out (by kernel_rfl)) (fun _ _ _ h => h) (Or.inr ⟨by rfl, rfl⟩) ?_ ?_
                 rotate_left
                 ·simp only [Act.put, sT, s0, s1, i64_w, i32_w]
                  rfl
                 refine pure_ (i := 25) (N := some 130) (v := undef) (a' := ?_) #[true, true, true, true, true, true, true, true, true, true, true, true, true, true, true, true, true, true, true, true, true, true, true, true, true, true, false, false, false, false, false, false] rfl rfl (any_of HT_.out (by kernel_rfl)) (fun _ _ _ h => h) (Or.inr ⟨by rfl, rfl⟩) ?_ ?_
                 rotate_left
                 ·simp only [Act.put, sT, s0, s1, i64_w, i32_w]
                  rfl
                 refine pure_ (i := 26) (N := some 131) (v := undef) (a' := ?_) #[true, true, true, true, true, true, true, true, true, true, true, true, true, true, true, true, true, true, true, true, true, true, true, true, true, true, true, false, false, false, false, false] rfl rfl (any_of HT_.out (by kernel_rfl)) (fun _ _ _ h => h) (Or.inr ⟨by rfl, rfl⟩) ?_ ?_
                 rotate_left
                 ·simp only [Act.put, sT, s0, s1, i64_w, i32_w]
                  rfl
                 refine pure_ (i := 27) (N := some 132) (v := undef) (a' := ?_) #[true, true, true, true, true, true, true, true, true, true, true, true, true, true, true, true, true, true, true, true, true, true, true, true, true, true, true, true, false, false, false, false] rfl rfl (any_of HT_.out (by kernel_rfl)) (fun _ _ _ h => h) (Or.inr ⟨by rfl, rfl⟩) ?_ ?_
                 rotate_left
                 ·simp only [Act.put, sT, s0, s1, i64_w, i32_w]
                  rfl
                 refine pure_ (i := 28) (N := some 133) (v := undef) (a' := ?_) #[true, true, true, true, true, true, true, true, true, true, true, true, true, true, true, true, true, true, true, true, true, true, true, true, true, true, true, true, true, false, false, false] rfl rfl (any_of HT_.out (by kernel_rfl)) (fun _ _ _ h => h) (Or.inr ⟨by rfl, rfl⟩) ?_ ?_
                 rotate_left
                 ·simp only [Act.put, sT, s0, s1, i64_w, i32_w]
                  rfl
                 refine pure_ (i := 29) (N := some 134) (v := undef) (a' := ?_) #[true, true, true, true, true, true, true, true, true, true, true, true, true, true, true, true, true, true, true, true, true, true, true, true, true, true, true, true, true, true, false, false] rfl rfl (any_of HT_.out (by kernel_rfl)) (fun _ _ _ h => h) (Or.inr ⟨by rfl, rfl⟩) ?_ ?_
                 rotate_left
                 ·simp only [Act.put, sT, s0, s1, i64_w, i32_w]
                  rfl
                 refine pure_ (i := 30) (N := some 135) (v := undef) (a' := ?_) #[true, true, true, true, true, true, true, true, true, true, true, true, true, true, true, true, true, true, true, true, true, true, true, true, true, true, true, true, true, true, true, false] rfl rfl (any_of HT_.out (by kernel_rfl)) (fun _ _ _ h => h) (Or.inr ⟨by rfl, rfl⟩) ?_ ?_
                 rotate_left
                 ·simp only [Act.put, sT, s0, s1, i64_w, i32_w]
                  rfl
                 refine pure_ (i := 31) (N := some 136) (v := ?_) (a' := ?_) #[true, true, true, true, true, true, true, true, true, true, true, true, true, true, true, true, true, true, true, true, true, true, true, true, true, true, true, true, true, true, true, true] rfl rfl (any_of HT_.out (by kernel_rfl)) (fun _ _ _ h => h) (Or.inl ⟨by rfl, ?_⟩) ?_ ?_
                 rotate_left
                 ·intro w'
                  go_simp
                  with_reducible rfl
                 rotate_left
                 ·simp only [Act.put, sT, s0, s1, i64_w, i32_w]
                  rfl
                 refine done_ (done_of HT_.out (by kernel_rfl)) ?_
                 try go_wp2
                 (first | go_meet | (refine Met.intro ?_; go_step; (repeat apply Exists.intro); refine ⟨?rel, ?eq⟩; case eq => (simp only [aC, bv, bw, aW]; rfl)))
                 case rel => exact ⟨_, (true), (by first | rfl | (simp; done) | (simp [*]; done)), H', ⟨by have := aF.out; have := aG.out; have := aK.out; first | omega | exact Nat.le_refl _⟩, ⟨zB ab.out⟩, ⟨by repeat (first | (with_reducible first | exact HB.out | apply pA | apply pN | apply pD | refine pS ?_ al.out) | exact HB.out)⟩⟩
               ·rw [if_neg c45] at H
                exact absurd H (by simp)
              ·rw [if_neg c44] at H
               exact absurd H (by simp)
            case rest =>
             clear HC38
             try clear p2
             try clear q2
             try clear hx2
             try clear c4
             try clear p26
             try clear q26
             try clear hx26
             try clear c42
             try clear aC
             try clear c44
             try clear bv
             try clear c45
             try clear bw
             try clear c46
             try clear aW
             try clear bL
             try clear hx266_0
             try clear hx266_1
             try clear hx266_2
             try clear hx266_3
             try clear hx266_4
             try clear hx267_0
             try clear hx267_1
             try clear hx267_2
             try clear hx267_3
             try clear hx267_4
             try clear hx267_5
             try clear hx268_0
             try clear hx268_1
             try clear hx268_2
             try clear hx268_3
             try clear hx268_4
             try clear hx269_0
             try clear hx269_1
             try clear hx269_2
             try clear hx269_3
             try clear hx269_4
             try clear hx269_5
             try clear p266
             try clear p267
             try clear p268
             try clear p269
             try clear q266
             try clear q267
             try clear q268
             try clear q269
             obtain ⟨kq, aV, rfl, HA, dI, ab, HB⟩ := hcut
             cases kq with
             | zero => exact absurd HA.out (by simp [portreeveref04_Right.j4])
             | succ dJ =>
              have H := HA.out
              clear HA
              simp only [portreeveref04_Right.j4] at H
              by_cases c49 : aV = true
              ·subst c49
               have H1 : (some false) = some r := by rw [if_pos rfl] at H; exact H
               clear H
               have H := H1
               clear H1
               obtain rfl := Option.some.inj H
               go_wp2
               go_ret
               exact ⟨by first | rfl | (simp [errW_none, errW_some] <;> rfl) | (simp [*, errW_none, errW_some] <;> rfl), by repeat (first | (with_reducible first | exact HB.out | apply pA | apply pN | apply pD | refine pS ?_ al.out) | exact HB.out)⟩
              ·replace c49 := Bool.eq_false_iff.mpr c49
               subst c49
               have H1 : (portreeveref04_Right.l1 dJ (wrap64 (ae + 1)) ag ad aa ac) = some r := by rw [if_neg (show ¬ (false = true) by decide)] at H; exact H
               clear H
               have H := H1
               clear H1
               have H' := Aside0.mk H
               clear H
               go_wp2
               go_roundg dJ
               case measure => have := aF.out; have := aG.out; have := aK.out; have := dI.out; omega
               case rel => exact ⟨(wrap64 (ae + 1)), (by first | rfl | (simp; done) | (simp [*]; done)), H', ⟨by have := aF.out; have := aG.out; have := aK.out; have := dI.out; omega⟩, ⟨zB ab.out⟩, ⟨by repeat (first | (with_reducible first | exact HB.out | apply pA | apply pN | apply pD | refine pS ?_ al.out) | exact HB.out)⟩⟩
           ·rw [if_neg c36] at H
            exact absurd H (by simp)
          ·rw [if_neg c35] at H
           have ce : decide (ae < (ad.length : Int)) = false := decide_eq_false c35
           clear c35
           have H' := Aside0.mk H
           clear H
           obtain ⟨b3, b4, b5, b6, b7, b8, b9, ca⟩ := bk4 ab.out
           go_wp2
           go_loopg [10] k3 (fun kq v10 w' => ∃ (af : Int), v10 = .int .i64 af ∧ Aside0 (portreeveref04_Right.l2 kq af ag ad aa ac = some r) ∧ Aside0 (kq ≤ k3) ∧ Aside0 (w'.heap[ak]? = some (.cells #[.int .i64 ag, (.slice av ad.length ao), (.slice aw aa.length ap), (.slice au ac.length aq)] 46 (0, 0))) ∧ Aside0 (Below w.heap.size w w'))
           case atStart => exact ⟨(0), (by first | rfl | (simp; done) | (simp [*]; done)), H', ⟨Nat.le_refl _⟩, ⟨zB ab.out⟩, ⟨by repeat (first | (with_reducible first | exact HB.out | apply pA | apply pN | apply pD | refine pS ?_ al.out) | exact HB.out)⟩⟩
           case round =>
            clear H'
            try clear p2
            try clear q2
            try clear hx2
            try clear c3
            try clear c4
            try clear p6
            try clear p26
            try clear q26
            try clear hx26
            try clear c35
            try clear ce
            try clear c36
            try clear c42
            try clear aC
            try clear c44
            try clear bv
            try clear c45
            try clear bw
            try clear c46
            try clear aW
            try clear bL
            try clear c49
            try clear b3
            try clear b4
            try clear b5
            try clear b6
            try clear b7
            try clear b8
            try clear b9
            try clear ca
            try clear hx266_0
            try clear hx266_1
            try clear hx266_2
            try clear hx266_3
            try clear hx266_4
            try clear hx267_0
            try clear hx267_1
            try clear hx267_2
            try clear hx267_3
            try clear hx267_4
            try clear hx267_5
            try clear hx268_0
            try clear hx268_1
            try clear hx268_2
            try clear hx268_3
            try clear hx268_4
            try clear hx269_0
            try clear hx269_1
            try clear hx269_2
            try clear hx269_3
            try clear hx269_4
            try clear hx269_5
            try clear p2
            try clear p26
            try clear p266
            try clear p267
            try clear p268
            try clear p269
            try clear q2
            try clear q26
            try clear q266
            try clear q267
            try clear q268
            try clear q269
            obtain ⟨af, rfl, HA, bJ, ab, HB⟩ := hrel
            cases gk with
            | zero => exact absurd HA.out (by simp [portreeveref04_Right.l2])
            | succ k4 =>
             have H := HA.out
             clear HA
             simp only [portreeveref04_Right.l2] at H
             by_cases c51 : af < (ac.length : Int)
             ·rw [if_pos c51] at H
              have ci : decide (af < (ac.length : Int)) = true := decide_eq_true c51
              clear c51
              by_cases c52 : 0 ≤ af
              ·rw [if_pos c52] at H
               have dS : decide (0 ≤ af) = true := decide_eq_true c52
               clear c52
               replace H := Option.bind_eq_some_iff.mp H
               obtain ⟨cg, dK, H⟩ := H
               replace H : (if cg = true then (if ((rd_T68 ac af).f1) < 1 then (portreeveref04_Right.j6 k4 af true ag ad aa ac) else (if ((rd_T68 ac af).f1) > 255 then (portreeveref04_Right.j6 k4 af true ag ad aa ac) else (if ((rd_T68 ac af).f2) < 0 then (portreeveref04_Right.j6 k4 af true ag ad aa ac) else (if ((rd_T68 ac af).f2) > 1000000000 then (portreeveref04_Right.j6 k4 af true ag ad aa ac) else ((portreeveref04_Failed.f k4 ag ad aa ac ((rd_T68 ac af).f0)).bind fun a5 => (portreeveref04_Right.j6 k4 af (a5 != af) ag ad aa ac)))))) else (portreeveref04_Right.j6 k4 af true ag ad aa ac)) = some r := H
               have em := Aside0.mk dK
               clear dK
               have HC54 := Aside0.mk H
               clear H
               obtain ⟨cA, cB, cC, cD, cE, cF, cG, cH⟩ := bk4 ab.out
               have p270 : 0 ≤ (af : Int) := of_decide_eq_true (by first | (with_reducible assumption) | assumption)
               have q270 : af < (ac.length : Int) := of_decide_eq_true (by first | (with_reducible assumption) | assumption)
               obtain ⟨bx, e270, hx270_0, hx270_1, hx270_2⟩ := at_T68 aI.out af p270 q270
               cases e270
               replace hx270_0 := (HB.out.cell (World.block_lt_of_cell? w _ hx270_0)).trans hx270_0
               replace hx270_1 := (HB.out.cell (World.block_lt_of_cell? w _ hx270_1)).trans hx270_1
               replace hx270_2 := (HB.out.cell (World.block_lt_of_cell? w _ hx270_2)).trans hx270_2
               replace p270 := eq_true p270
               replace q270 := eq_true q270
               go_upto_region 27 with (first | ((with_reducible refine gate_dst (N := 11) rfl ?_); (try (refine gate_guard (by rfl) ?_; dsimp only)); refine box_event ?hg (N := 11) ?hd (cs := #[.string (⟨#[]⟩ : ByteArray), .int .i64 0, .int .i64 0]) (t := 68) ?hr ?_; (case hd => rfl); (case hg => rfl); (case hr => first | (go_simp; done) | (go_simp; rfl)); intro aX hg w56 hbox hb; have n0_ := Aside0.mk (blk_below (g := ak) (o := .cells #[.int .i64 ag, .slice av ad.length ao, .slice aw aa.length ap, .slice (some bx) ac.length aq] 46 (0, 0)) (zB ab.out) hb); have n1_ := Aside0.mk (below_step (by repeat (first | (with_reducible first | exact HB.out | apply pA | apply pN | apply pD | refine pS ?_ al.out) | exact HB.out)) hb); have n2_ := Aside0.mk (hbox); have n3_ := Aside0.mk ((by rw [hg]; exact (below_size (by repeat (first | (with_reducible first | exact HB.out | apply pA | apply pN | apply pD | refine pS ?_ al.out) | exact HB.out))) : w.heap.size ≤ aX)); have n4_ := Aside0.mk ((by rw [hg]; exact (below_size (by repeat (first | (with_reducible first | exact HB.out | apply pA | apply pN | apply pD | refine pS ?_ al.out) | exact HB.out))) : w.heap.size ≤ aX)); have n5_ := Aside0.mk ((by rw [hg]; exact Nat.ne_of_lt (blk_lt (g := ak) (o := .cells #[.int .i64 ag, .slice av ad.length ao, .slice aw aa.length ap, .slice (some bx) ac.length aq] 46 (0, 0)) (zB ab.out)) : ak ≠ aX)); have n6_ := Aside0.mk ((by rw [hg]; exact Nat.ne_of_gt (blk_lt (g := ak) (o := .cells #[.int .i64 ag, .slice av ad.length ao, .slice aw aa.length ap, .slice (some bx) ac.length aq] 46 (0, 0)) (zB ab.out)) : aX ≠ ak)); clear ab; clear HB; have ab := n0_; have HB := n1_; have ax := n2_; have er := n3_; have aA := n4_; have ar := n5_; have aB := n6_; clear n0_ n1_ n2_ n3_ n4_ n5_ n6_; clear hb hbox hg; have es := aB.out; have et := ar.out; obtain ⟨cI, cJ, cK, cL, cM, cN⟩ := bk3 ax.out) | ((with_reducible refine gate_callee (f := 31) rfl ?_); refine goesL_ (some 151) rfl rfl Try.func31 (by kernel_rfl) rfl #[.string ((rd_T68 ac af).f0)] rfl (by (try simp only [List.map_toArray, List.map_cons, List.map_nil]); first | done | rfl | (simp only [List.length_drop, List.length_take]; rfl)) ?_; (with_reducible refine (portreeveref04_name.calls ((rd_T68 ac af).f0) cg _ em.out).mono ?_); rintro e w' ⟨rfl, ⟨nd, rfl⟩⟩; refine ⟨_, rfl, ?_⟩))
               (try simp only [Act.put, sT, s0, s1])
               go_cut [181] (fun v181 wc => ∃ (kq : Nat) (aY : Bool), v181 = .bool aY ∧ Aside0 (portreeveref04_Right.j6 kq af aY ag ad aa ac = some r) ∧ Aside0 (kq ≤ k4) ∧ Aside0 (wc.heap[ak]? = some (.cells #[.int .i64 ag, (.slice av ad.length ao), (.slice aw aa.length ap), (.slice (some bx) ac.length aq)] 46 (0, 0))) ∧ Aside0 (wc.heap[aX]? = some (.cells #[.string ((rd_T68 ac af).f0), .int .i64 ((rd_T68 ac af).f1), .int .i64 ((rd_T68 ac af).f2)] 68 (0, 0))) ∧ Aside0 (Below w.heap.size w wc))
               case first =>
                have H := HC54.out
                clear HC54
                by_cases c59 : cg = true
                ·subst c59
                 have H1 : (if ((rd_T68 ac af).f1) < 1 then (portreeveref04_Right.j6 k4 af true ag ad aa ac) else (if ((rd_T68 ac af).f1) > 255 then (portreeveref04_Right.j6 k4 af true ag ad aa ac) else (if ((rd_T68 ac af).f2) < 0 then (portreeveref04_Right.j6 k4 af true ag ad aa ac) else (if ((rd_T68 ac af).f2) > 1000000000 then (portreeveref04_Right.j6 k4 af true ag ad aa ac) else ((portreeveref04_Failed.f k4 ag ad aa ac ((rd_T68 ac af).f0)).bind fun a5 => (portreeveref04_Right.j6 k4 af (a5 != af) ag ad aa ac)))))) = some r := by rw [if_pos rfl] at H; exact H
                 clear H
                 have H := H1
                 clear H1
                 by_cases c60 : ((rd_T68 ac af).f1) < 1
                 ·rw [if_pos c60] at H
                  have aD : decide (((rd_T68 ac af).f1) < 1) = true := decide_eq_true c60
                  clear c60
                  (first | rw [aD] | (simp only [i64_w, i32_w]; rw [aD]) | skip)
                  have H' := Aside0.mk H
                  clear H
                  have eu := aB.out
                  have ev := ar.out
                  obtain ⟨cO, cP, cQ, cR, cS, cT⟩ := bk3 ax.out
                  go_wp2
                  (first | go_meet | (refine Met.intro ?_; go_step; (repeat apply Exists.intro); refine ⟨?rel, ?eq⟩; case eq => (simp only [aD]; rfl)))
                  case rel => exact ⟨_, (true), (by first | rfl | (simp; done) | (simp [*]; done)), H', ⟨by have := aF.out; have := aG.out; have := aK.out; have := bJ.out; first | omega | exact Nat.le_refl _⟩, ⟨fB ar.out ab.out⟩, ⟨by (with_reducible repeat (first | refine qN ?_ _ | refine qD ?_ | refine qA ?_ _)); refine blk_put (cs := #[.string ((rd_T68 ac af).f0), .int .i64 ((rd_T68 ac af).f1), .int .i64 0]) ?_ 2 _ rfl; (with_reducible repeat (first | refine qN ?_ _ | refine qD ?_ | refine qA ?_ _)); refine blk_put (cs := #[.string ((rd_T68 ac af).f0), .int .i64 0, .int .i64 0]) ?_ 1 _ rfl; (with_reducible repeat (first | refine qN ?_ _ | refine qD ?_ | refine qA ?_ _)); refine blk_put (cs := #[.string (⟨#[]⟩ : ByteArray), .int .i64 0, .int .i64 0]) ?_ 0 _ rfl; (with_reducible repeat (first | refine qN ?_ _ | refine qD ?_ | refine qA ?_ _)); exact ax.out⟩, ⟨by repeat (first | (with_reducible first | exact HB.out | apply pA | apply pN | apply pD | refine pS ?_ al.out | refine pS ?_ aA.out) | exact HB.out)⟩⟩
                 ·rw [if_neg c60] at H
                  have aD : decide (((rd_T68 ac af).f1) < 1) = false := decide_eq_false c60
                  clear c60
                  (first | rw [aD] | (simp only [i64_w, i32_w]; rw [aD]) | skip)
                  by_cases c63 : ((rd_T68 ac af).f1) > 255
                  ·rw [if_pos c63] at H
                   have aZ : decide (255 < ((rd_T68 ac af).f1)) = true := decide_eq_true c63
                   clear c63
                   have H' := Aside0.mk H
                   clear H
                   have ew := aB.out
                   have ex := ar.out
                   obtain ⟨cU, cV, cW, cX, cY, cZ⟩ := bk3 ax.out
                   go_wp2
                   (first | go_meet | (refine Met.intro ?_; go_step; (repeat apply Exists.intro); refine ⟨?rel, ?eq⟩; case eq => (simp only [aD, aZ]; rfl)))
                   case rel => exact ⟨_, (true), (by first | rfl | (simp; done) | (simp [*]; done)), H', ⟨by have := aF.out; have := aG.out; have := aK.out; have := bJ.out; first | omega | exact Nat.le_refl _⟩, ⟨fB ar.out ab.out⟩, ⟨by (with_reducible repeat (first | refine qN ?_ _ | refine qD ?_ | refine qA ?_ _)); refine blk_put (cs := #[.string ((rd_T68 ac af).f0), .int .i64 ((rd_T68 ac af).f1), .int .i64 0]) ?_ 2 _ rfl; (with_reducible repeat (first | refine qN ?_ _ | refine qD ?_ | refine qA ?_ _)); refine blk_put (cs := #[.string ((rd_T68 ac af).f0), .int .i64 0, .int .i64 0]) ?_ 1 _ rfl; (with_reducible repeat (first | refine qN ?_ _ | refine qD ?_ | refine qA ?_ _)); refine blk_put (cs := #[.string (⟨#[]⟩ : ByteArray), .int .i64 0, .int .i64 0]) ?_ 0 _ rfl; (with_reducible repeat (first | refine qN ?_ _ | refine qD ?_ | refine qA ?_ _)); exact ax.out⟩, ⟨by repeat (first | (with_reducible first | exact HB.out | apply pA | apply pN | apply pD | refine pS ?_ al.out | refine pS ?_ aA.out) | exact HB.out)⟩⟩
                  ·rw [if_neg c63] at H
                   have aZ : decide (255 < ((rd_T68 ac af).f1)) = false := decide_eq_false c63
                   clear c63
                   by_cases c66 : ((rd_T68 ac af).f2) < 0
                   ·rw [if_pos c66] at H
                    have bz : decide (((rd_T68 ac af).f2) < 0) = true := decide_eq_true c66
                    clear c66
                    have H' := Aside0.mk H
                    clear H
                    have ey := aB.out
                    have ez := ar.out
                    obtain ⟨c0, c9, da, db, dc, dd⟩ := bk3 ax.out
                    go_wp2
                    (first | go_meet | (refine Met.intro ?_; go_step; (repeat apply Exists.intro); refine ⟨?rel, ?eq⟩; case eq => (simp only [aD, aZ, bz]; rfl)))
                    case rel => exact ⟨_, (true), (by first | rfl | (simp; done) | (simp [*]; done)), H', ⟨by have := aF.out; have := aG.out; have := aK.out; have := bJ.out; first | omega | exact Nat.le_refl _⟩, ⟨fB ar.out ab.out⟩, ⟨by (with_reducible repeat (first | refine qN ?_ _ | refine qD ?_ | refine qA ?_ _)); refine blk_put (cs := #[.string ((rd_T68 ac af).f0), .int .i64 ((rd_T68 ac af).f1), .int .i64 0]) ?_ 2 _ rfl; (with_reducible repeat (first | refine qN ?_ _ | refine qD ?_ | refine qA ?_ _)); refine blk_put (cs := #[.string ((rd_T68 ac af).f0), .int .i64 0, .int .i64 0]) ?_ 1 _ rfl; (with_reducible repeat (first | refine qN ?_ _ | refine qD ?_ | refine qA ?_ _)); refine blk_put (cs := #[.string (⟨#[]⟩ : ByteArray), .int .i64 0, .int .i64 0]) ?_ 0 _ rfl; (with_reducible repeat (first | refine qN ?_ _ | refine qD ?_ | refine qA ?_ _)); exact ax.out⟩, ⟨by repeat (first | (with_reducible first | exact HB.out | apply pA | apply pN | apply pD | refine pS ?_ al.out | refine pS ?_ aA.out) | exact HB.out)⟩⟩
                   ·rw [if_neg c66] at H
                    have bz : decide (((rd_T68 ac af).f2) < 0) = false := decide_eq_false c66
                    clear c66
                    by_cases c69 : ((rd_T68 ac af).f2) > 1000000000
                    ·rw [if_pos c69] at H
                     have bM : decide (1000000000 < ((rd_T68 ac af).f2)) = true := decide_eq_true c69
                     clear c69
                     have H' := Aside0.mk H
                     clear H
                     have eA := aB.out
                     have eB := ar.out
                     obtain ⟨de, df, dg, dh, di, dj⟩ := bk3 ax.out
                     go_wp2
                     (first | go_meet | (refine Met.intro ?_; go_step; (repeat apply Exists.intro); refine ⟨?rel, ?eq⟩; case eq => (simp only [aD, aZ, bz, bM]; rfl)))
                     case rel => exact ⟨_, (true), (by first | rfl | (simp; done) | (simp [*]; done)), H', ⟨by have := aF.out; have := aG.out; have := aK.out; have := bJ.out; first | omega | exact Nat.le_refl _⟩, ⟨fB ar.out ab.out⟩, ⟨by (with_reducible repeat (first | refine qN ?_ _ | refine qD ?_ | refine qA ?_ _)); refine blk_put (cs := #[.string ((rd_T68 ac af).f0), .int .i64 ((rd_T68 ac af).f1), .int .i64 0]) ?_ 2 _ rfl; (with_reducible repeat (first | refine qN ?_ _ | refine qD ?_ | refine qA ?_ _)); refine blk_put (cs := #[.string ((rd_T68 ac af).f0), .int .i64 0, .int .i64 0]) ?_ 1 _ rfl; (with_reducible repeat (first | refine qN ?_ _ | refine qD ?_ | refine qA ?_ _)); refine blk_put (cs := #[.string (⟨#[]⟩ : ByteArray), .int .i64 0, .int .i64 0]) ?_ 0 _ rfl; (with_reducible repeat (first | refine qN ?_ _ | refine qD ?_ | refine qA ?_ _)); exact ax.out⟩, ⟨by repeat (first | (with_reducible first | exact HB.out | apply pA | apply pN | apply pD | refine pS ?_ al.out | refine pS ?_ aA.out) | exact HB.out)⟩⟩
                    ·rw [if_neg c69] at H
                     have bM : decide (1000000000 < ((rd_T68 ac af).f2)) = false := decide_eq_false c69
                     clear c69
                     replace H := Option.bind_eq_some_iff.mp H
                     obtain ⟨a5, dL, H⟩ := H
                     replace H : (portreeveref04_Right.j6 k4 af (a5 != af) ag ad aa ac) = some r := H
                     have en := Aside0.mk dL
                     clear dL
                     have H' := Aside0.mk H
                     clear H
                     have eC := aB.out
                     have eD := ar.out
                     obtain ⟨dk, dl, dm, dn, dp, dq⟩ := bk3 ax.out
                     obtain ⟨dr, dt, du, dv, dw, dx, dy, dz⟩ := bk4 ab.out
                     go_wp2_with (first | (go_at_call 32; (with_reducible refine (portreeveref04_Failed.calls k4 ag _ _ ad _ _ aa _ _ ac ((rd_T68 ac af).f0) a5 _ ?side1 ?side2 ?side3 ?side4 ?side5 ?side6 en.out).mono ?_); (case side1 => exact Kd.C_below az.out (by repeat (first | (with_reducible first | exact HB.out | apply pA | apply pN | apply pD | refine pS ?_ al.out | refine pS ?_ aA.out) | exact HB.out))); (case side2 => exact HC0_1.out); (case side3 => exact Kd.C_below ay.out (by repeat (first | (with_reducible first | exact HB.out | apply pA | apply pN | apply pD | refine pS ?_ al.out | refine pS ?_ aA.out) | exact HB.out))); (case side4 => exact HC0_2.out); (case side5 => exact Kd.C_below aI.out (by repeat (first | (with_reducible first | exact HB.out | apply pA | apply pN | apply pD | refine pS ?_ al.out | refine pS ?_ aA.out) | exact HB.out))); (case side6 => exact HC0_3.out); rintro e w76 ⟨rfl, hb⟩; have n0_ := Aside0.mk (blk_below (g := ak) (o := .cells #[.int .i64 ag, .slice av ad.length ao, .slice aw aa.length ap, .slice (some bx) ac.length aq] 46 (0, 0)) (fB ar.out ab.out) hb); have n1_ := Aside0.mk (blk_below (g := aX) (o := .cells #[.string ((rd_T68 ac af).f0), .int .i64 ((rd_T68 ac af).f1), .int .i64 ((rd_T68 ac af).f2)] 68 (0, 0)) (by (with_reducible repeat (first | refine qN ?_ _ | refine qD ?_ | refine qA ?_ _)); refine blk_put (cs := #[.string ((rd_T68 ac af).f0), .int .i64 ((rd_T68 ac af).f1), .int .i64 0]) ?_ 2 _ rfl; (with_reducible repeat (first | refine qN ?_ _ | refine qD ?_ | refine qA ?_ _)); refine blk_put (cs := #[.string ((rd_T68 ac af).f0), .int .i64 0, .int .i64 0]) ?_ 1 _ rfl; (with_reducible repeat (first | refine qN ?_ _ | refine qD ?_ | refine qA ?_ _)); refine blk_put (cs := #[.string (⟨#[]⟩ : ByteArray), .int .i64 0, .int .i64 0]) ?_ 0 _ rfl; (with_reducible repeat (first | refine qN ?_ _ | refine qD ?_ | refine qA ?_ _)); exact ax.out) hb); have n2_ := Aside0.mk (below_step (by repeat (first | (with_reducible first | exact HB.out | apply pA | apply pN | apply pD | refine pS ?_ al.out | refine pS ?_ aA.out) | exact HB.out)) hb); clear ab; clear ax; clear HB; have ab := n0_; have ax := n1_; have HB := n2_; clear n0_ n1_ n2_; (try clear hb); (try clear hb2); (try clear hk); (try clear hi)))
                     (first | go_meet | (refine Met.intro ?_; go_step; (repeat apply Exists.intro); refine ⟨?rel, ?eq⟩; case eq => (simp only [aD, aZ, bz, bM]; rfl)))
                     case rel => exact ⟨_, ((a5 != af)), (by first | rfl | (simp; done) | (simp [*]; done)), H', ⟨by have := aF.out; have := aG.out; have := aK.out; have := bJ.out; first | omega | exact Nat.le_refl _⟩, ⟨zB ab.out⟩, ⟨zB ax.out⟩, ⟨by repeat (first | (with_reducible first | exact HB.out | apply pA | apply pN | apply pD | refine pS ?_ al.out | refine pS ?_ aA.out) | exact HB.out)⟩⟩
                ·replace c59 := Bool.eq_false_iff.mpr c59
                 subst c59
                 have H1 : (portreeveref04_Right.j6 k4 af true ag ad aa ac) = some r := by rw [if_neg (show ¬ (false = true) by decide)] at H; exact H
                 clear H
                 have H := H1
                 clear H1
                 have H' := Aside0.mk H
                 clear H
                 go_wp2
                 go_meet
                 case rel => exact ⟨_, (true), (by first | rfl | (simp; done) | (simp [*]; done)), H', ⟨by have := aF.out; have := aG.out; have := aK.out; have := bJ.out; first | omega | exact Nat.le_refl _⟩, ⟨fB ar.out ab.out⟩, ⟨by (with_reducible repeat (first | refine qN ?_ _ | refine qD ?_ | refine qA ?_ _)); refine blk_put (cs := #[.string ((rd_T68 ac af).f0), .int .i64 ((rd_T68 ac af).f1), .int .i64 0]) ?_ 2 _ rfl; (with_reducible repeat (first | refine qN ?_ _ | refine qD ?_ | refine qA ?_ _)); refine blk_put (cs := #[.string ((rd_T68 ac af).f0), .int .i64 0, .int .i64 0]) ?_ 1 _ rfl; (with_reducible repeat (first | refine qN ?_ _ | refine qD ?_ | refine qA ?_ _)); refine blk_put (cs := #[.string (⟨#[]⟩ : ByteArray), .int .i64 0, .int .i64 0]) ?_ 0 _ rfl; (with_reducible repeat (first | refine qN ?_ _ | refine qD ?_ | refine qA ?_ _)); exact ax.out⟩, ⟨by repeat (first | (with_reducible first | exact HB.out | apply pA | apply pN | apply pD | refine pS ?_ al.out | refine pS ?_ aA.out) | exact HB.out)⟩⟩
               case rest =>
                clear HC54
                try clear p2
                try clear q2
                try clear hx2
                try clear c3
                try clear c4
                try clear c5
                try clear c6
                try clear p6
                try clear c7
                try clear p26
                try clear q26
                try clear hx26
                try clear p27
                try clear q27
                try clear hx27
                try clear c31
                try clear c35
                try clear ce
                try clear c36
                try clear c42
                try clear aC
                try clear c44
                try clear bv
                try clear c45
                try clear bw
                try clear c46
                try clear aW
                try clear bL
                try clear c49
                try clear c51
                try clear ci
                try clear c52
                try clear dS
                try clear c57
                try clear c59
                try clear c60
                try clear aD
                try clear c61
                try clear c63
                try clear aZ
                try clear c64
                try clear p64
                try clear c66
                try clear bz
                try clear c67
                try clear c69
                try clear bM
                try clear c70
                try clear c73
                try clear b3
                try clear b4
                try clear b5
                try clear b6
                try clear cA
                try clear cB
                try clear cC
                try clear cD
                try clear cI
                try clear cJ
                try clear cK
                try clear cO
                try clear cP
                try clear cQ
                try clear cU
                try clear cV
                try clear cW
                try clear c0
                try clear c9
                try clear da
                try clear de
                try clear df
                try clear dg
                try clear dk
                try clear dl
                try clear dm
                try clear dr
                try clear dt
                try clear du
                try clear dv
                try clear b7
                try clear b8
                try clear b9
                try clear ca
                try clear cE
                try clear cF
                try clear cG
                try clear cH
                try clear cL
                try clear cM
                try clear cN
                try clear cR
                try clear cS
                try clear cT
                try clear cX
                try clear cY
                try clear cZ
                try clear db
                try clear dc
                try clear dd
                try clear dh
                try clear di
                try clear dj
                try clear dn
                try clear dp
                try clear dq
                try clear dw
                try clear dx
                try clear dy
                try clear dz
                try clear hx266_0
                try clear hx266_1
                try clear hx266_2
                try clear hx266_3
                try clear hx266_4
                try clear hx267_0
                try clear hx267_1
                try clear hx267_2
                try clear hx267_3
                try clear hx267_4
                try clear hx267_5
                try clear hx268_0
                try clear hx268_1
                try clear hx268_2
                try clear hx268_3
                try clear hx268_4
                try clear hx269_0
                try clear hx269_1
                try clear hx269_2
                try clear hx269_3
                try clear hx269_4
                try clear hx269_5
                try clear hx270_0
                try clear hx270_1
                try clear hx270_2
                try clear p2
                try clear p26
                try clear p266
                try clear p267
                try clear p268
                try clear p269
                try clear p270
                try clear p6
                try clear q2
                try clear q26
                try clear q266
                try clear q267
                try clear q268
                try clear q269
                try clear q270
                obtain ⟨kq, aY, rfl, HA, dM, ab, ax, HB⟩ := hcut
                cases kq with
                | zero => exact absurd HA.out (by simp [portreeveref04_Right.j6])
                | succ dN =>
                 have H := HA.out
                 clear HA
                 simp only [portreeveref04_Right.j6] at H
                 by_cases c77 : aY = true
                 ·subst c77
                  have H1 : (some false) = some r := by rw [if_pos rfl] at H; exact H
                  clear H
                  have H := H1
                  clear H1
                  obtain rfl := Option.some.inj H
                  go_wp2
                  go_ret
                  exact ⟨by first | rfl | (simp [errW_none, errW_some] <;> rfl) | (simp [*, errW_none, errW_some] <;> rfl), by repeat (first | (with_reducible first | exact HB.out | apply pA | apply pN | apply pD | refine pS ?_ al.out | refine pS ?_ aA.out) | exact HB.out)⟩
                 ·replace c77 := Bool.eq_false_iff.mpr c77
                  subst c77
                  have H1 : (portreeveref04_Right.l2 dN (wrap64 (af + 1)) ag ad aa ac) = some r := by rw [if_neg (show ¬ (false = true) by decide)] at H; exact H
                  clear H
                  have H := H1
                  clear H1
                  have H' := Aside0.mk H
                  clear H
                  go_wp2
                  go_roundg dN
                  case measure => have := aF.out; have := aG.out; have := aK.out; have := bJ.out; have := dM.out; omega
                  case rel => exact ⟨(wrap64 (af + 1)), (by first | rfl | (simp; done) | (simp [*]; done)), H', ⟨by have := aF.out; have := aG.out; have := aK.out; have := bJ.out; have := dM.out; omega⟩, ⟨zB ab.out⟩, ⟨by repeat (first | (with_reducible first | exact HB.out | apply pA | apply pN | apply pD | refine pS ?_ al.out | refine pS ?_ aA.out) | exact HB.out)⟩⟩
              ·rw [if_neg c52] at H
               exact absurd H (by simp)
             ·rw [if_neg c51] at H
              have ci : decide (af < (ac.length : Int)) = false := decide_eq_false c51
              clear c51
              obtain rfl := Option.some.inj H
              obtain ⟨d3, d4, d5, d6, d7, d8, d9, ea⟩ := bk4 ab.out
              go_wp2
              go_ret
              exact ⟨by first | rfl | (simp [errW_none, errW_some] <;> rfl) | (simp [*, errW_none, errW_some] <;> rfl), by repeat (first | (with_reducible first | exact HB.out | apply pA | apply pN | apply pD | refine pS ?_ al.out) | exact HB.out)⟩
    ·replace c13 := Bool.eq_false_iff.mpr c13
     subst c13
     have H1 : (some false) = some r := by rw [if_neg (show ¬ (false = true) by decide)] at H; exact H
     clear H
     have H := H1
     clear H1
     obtain rfl := Option.some.inj H
     obtain ⟨eb, ec, ed, ee, ef, eg, eh, ei⟩ := bk4 ab.out
     go_wp2_with (first | ((with_reducible refine gate_callee (f := 28) rfl ?_); refine goesL_ (some 38) rfl rfl Try.func28 (by kernel_rfl) rfl #[.agg #[.int .i64 ag, .slice av ad.length ao, .slice aw aa.length ap, .slice au ac.length aq]] rfl (by (try simp only [List.map_toArray, List.map_cons, List.map_nil]); first | done | rfl | (simp only [List.length_drop, List.length_take]; rfl)) ?_; (with_reducible refine (portreeveref04_open.calls bI ag _ _ ad _ _ aa _ _ ac false _ ?side1 ?side2 ?side3 ?side4 ?side5 ?side6 dT.out).mono ?_); (case side1 => repeat (first | exact (Kd.C_below az.out HB.out) | (with_reducible refine Kd.C_alloc ?_ _) | (with_reducible refine Kd.C_drewN ?_ _) | (with_reducible refine Kd.C_drew ?_))); (case side2 => exact HC0_1.out); (case side3 => repeat (first | exact (Kd.C_below ay.out HB.out) | (with_reducible refine Kd.C_alloc ?_ _) | (with_reducible refine Kd.C_drewN ?_ _) | (with_reducible refine Kd.C_drew ?_))); (case side4 => exact HC0_2.out); (case side5 => repeat (first | exact (Kd.C_below aI.out HB.out) | (with_reducible refine Kd.C_alloc ?_ _) | (with_reducible refine Kd.C_drewN ?_ _) | (with_reducible refine Kd.C_drew ?_))); (case side6 => exact HC0_3.out); rintro e w80 ⟨rfl, hb⟩; refine ⟨_, rfl, ?_⟩; have n0_ := Aside0.mk (blk_below (g := ak) (o := .cells #[.int .i64 ag, .slice av ad.length ao, .slice aw aa.length ap, .slice au ac.length aq] 46 (0, 0)) (zB ab.out) hb); have n1_ := Aside0.mk (below_step (by repeat (first | (with_reducible first | exact HB.out | apply pA | apply pN | apply pD | refine pS ?_ al.out) | exact HB.out)) hb); clear ab; clear HB; have ab := n0_; have HB := n1_; clear n0_ n1_; (try clear hb); (try clear hb2); (try clear hk); (try clear hi)))
     go_ret
     exact ⟨by first | rfl | (simp [errW_none, errW_some] <;> rfl) | (simp [*, errW_none, errW_some] <;> rfl), by repeat (first | (with_reducible first | exact HB.out | apply pA | apply pN | apply pD | refine pS ?_ al.out) | exact HB.out)⟩

end Go.Proofs.Ytlimlbhhbjaljaa.Q

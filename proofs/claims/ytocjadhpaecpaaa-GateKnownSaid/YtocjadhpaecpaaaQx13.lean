-- written by this session's own program (wip/tools/myprint.py), over the kit's print
import Derived.Test.YtocjadhpaecpaaaQx0
import Derived.Test.YtocjadhpaecpaaaQx8
import Derived.Test.YtocjadhpaecpaaaQx9
import Derived.Test.YtocjadhpaecpaaaQx10
import Derived.Test.YtocjadhpaecpaaaQx11
import Derived.Test.YtocjadhpaecpaaaQx12
namespace Go.Proofs.Ytocjadhpaecpaaa.Q
open Go.RowKit Go.Proofs.YtocjadhpaecpaaaW.PrintWords Go.Proofs.YtocjadhpaecpaaaW.PrintLast Go.Proofs.YtocjadhpaecpaaaW.PrintMore
open Go.Proofs.YtocjadhpaecpaaaV
attribute [local go_sem] max2_int min2_int max_two min_two max_three min_three max_four min_four   -- for this text's walks alone
set_option linter.unusedVariables false
set_option linter.unusedSimpArgs false

/-! ### portreeveref04_Right: function 17 -/
mutual
def portreeveref04_Right.j0 : Nat → Bool → Int → List (S76) → List (S72) → List (S64) → Option (Bool)
 | 0, _, _, _, _, _ => none
 | k + 1, x36, x175000, x175001, x175002, x175003 => if x36 = true then (some false) else ((portreeveref04_open.f k x175000 x175001 x175002 x175003).bind fun t175 => (if t175 = true then (portreeveref04_Right.l0 k 0 x175000 x175001 x175002 x175003) else (some false)))
def portreeveref04_Right.l0 : Nat → Int → Int → List (S76) → List (S72) → List (S64) → Option (Bool)
 | 0, _, _, _, _, _ => none
 | k + 1, x4, x175000, x175001, x175002, x175003 => if x4 < (x175002.length : Int) then ((portreeveref04_line.f k x175000 x175001 x175002 x175003 x4).bind fun t176 => (if t176 = true then (if 0 ≤ x4 then ((portreeveref04_last.f k x175000 x175001 x175002 x175003 ((rd_T72 x175002 x4).f1) (x175002.length : Int)).bind fun t178 => ((portreeveref04_Of.f k x175000 x175001 x175002 x175003 ((rd_T72 x175002 x4).f1)).bind fun t180 => (if t178 = x4 then (portreeveref04_Right.j2 k x4 ((decide (t180 ≥ 0)) == (((rd_T72 x175002 x4).f0) == 3)) x175000 x175001 x175002 x175003) else (portreeveref04_Right.j2 k x4 false x175000 x175001 x175002 x175003)))) else (none)) else (some false))) else (portreeveref04_Right.l1 k 0 x175000 x175001 x175002 x175003)
def portreeveref04_Right.j2 : Nat → Int → Bool → Int → List (S76) → List (S72) → List (S64) → Option (Bool)
 | 0, _, _, _, _, _, _ => none
 | k + 1, x4, x86, x175000, x175001, x175002, x175003 => if x86 = true then (some false) else (portreeveref04_Right.l0 k (wrap64 (x4 + 1)) x175000 x175001 x175002 x175003)
def portreeveref04_Right.l1 : Nat → Int → Int → List (S76) → List (S72) → List (S64) → Option (Bool)
 | 0, _, _, _, _, _ => none
 | k + 1, x8, x175000, x175001, x175002, x175003 => if x8 < (x175001.length : Int) then (if 0 ≤ x8 then ((portreeveref04_last.f k x175000 x175001 x175002 x175003 ((rd_T76 x175001 x8).f0) (x175002.length : Int)).bind fun t183 => (if t183 < 0 then (portreeveref04_Right.j4 k x8 true x175000 x175001 x175002 x175003) else (if 0 ≤ t183 then (if t183 < (x175002.length : Int) then (if ((rd_T72 x175002 t183).f2) = ((rd_T76 x175001 x8).f4) then (portreeveref04_Right.j4 k x8 (((rd_T72 x175002 t183).f3) != ((rd_T76 x175001 x8).f5)) x175000 x175001 x175002 x175003) else (portreeveref04_Right.j4 k x8 true x175000 x175001 x175002 x175003)) else (none)) else (none)))) else (none)) else (portreeveref04_Right.l2 k 0 x175000 x175001 x175002 x175003)
def portreeveref04_Right.j4 : Nat → Int → Bool → Int → List (S76) → List (S72) → List (S64) → Option (Bool)
 | 0, _, _, _, _, _, _ => none
 | k + 1, x8, x136, x175000, x175001, x175002, x175003 => if x136 = true then (some false) else (portreeveref04_Right.l1 k (wrap64 (x8 + 1)) x175000 x175001 x175002 x175003)
def portreeveref04_Right.l2 : Nat → Int → Int → List (S76) → List (S72) → List (S64) → Option (Bool)
 | 0, _, _, _, _, _ => none
 | k + 1, x10, x175000, x175001, x175002, x175003 => if x10 < (x175003.length : Int) then (if 0 ≤ x10 then ((portreeveref04_name.f ((rd_T64 x175003 x10).f0)).bind fun t190 => (if t190 = true then (if ((rd_T64 x175003 x10).f1) < 1 then (portreeveref04_Right.j6 k x10 true x175000 x175001 x175002 x175003) else (if ((rd_T64 x175003 x10).f1) > 255 then (portreeveref04_Right.j6 k x10 true x175000 x175001 x175002 x175003) else (if ((rd_T64 x175003 x10).f2) < 0 then (portreeveref04_Right.j6 k x10 true x175000 x175001 x175002 x175003) else (if ((rd_T64 x175003 x10).f2) > 1000000000 then (portreeveref04_Right.j6 k x10 true x175000 x175001 x175002 x175003) else ((portreeveref04_Failed.f k x175000 x175001 x175002 x175003 ((rd_T64 x175003 x10).f0)).bind fun t191 => (portreeveref04_Right.j6 k x10 (t191 != x10) x175000 x175001 x175002 x175003)))))) else (portreeveref04_Right.j6 k x10 true x175000 x175001 x175002 x175003))) else (none)) else (some true)
def portreeveref04_Right.j6 : Nat → Int → Bool → Int → List (S76) → List (S72) → List (S64) → Option (Bool)
 | 0, _, _, _, _, _, _ => none
 | k + 1, x10, x181, x175000, x175001, x175002, x175003 => if x181 = true then (some false) else (portreeveref04_Right.l2 k (wrap64 (x10 + 1)) x175000 x175001 x175002 x175003)
end
def portreeveref04_Right.f (k : Nat) (a0_0 : Int) (l0_1 : List (S76)) (l0_2 : List (S72)) (l0_3 : List (S64)) : Option (Bool) := if a0_0 < 0 then (portreeveref04_Right.j0 k true a0_0 l0_1 l0_2 l0_3) else (if a0_0 > 1000000000 then (portreeveref04_Right.j0 k true a0_0 l0_1 l0_2 l0_3) else (if (wrap64 ((l0_2.length : Int) + (l0_1.length : Int))) > 60 then (portreeveref04_Right.j0 k true a0_0 l0_1 l0_2 l0_3) else (portreeveref04_Right.j0 k (decide ((l0_3.length : Int) > 8)) a0_0 l0_1 l0_2 l0_3)))
theorem portreeveref04_Right.mono_l : ∀ k, (∀ y0 y1 y2 y3 y4, LeO (portreeveref04_Right.j0 k y0 y1 y2 y3 y4) (portreeveref04_Right.j0 (k + 1) y0 y1 y2 y3 y4)) ∧ (∀ y0 y1 y2 y3 y4, LeO (portreeveref04_Right.l0 k y0 y1 y2 y3 y4) (portreeveref04_Right.l0 (k + 1) y0 y1 y2 y3 y4)) ∧ (∀ y0 y1 y2 y3 y4 y5, LeO (portreeveref04_Right.j2 k y0 y1 y2 y3 y4 y5) (portreeveref04_Right.j2 (k + 1) y0 y1 y2 y3 y4 y5)) ∧ (∀ y0 y1 y2 y3 y4, LeO (portreeveref04_Right.l1 k y0 y1 y2 y3 y4) (portreeveref04_Right.l1 (k + 1) y0 y1 y2 y3 y4)) ∧ (∀ y0 y1 y2 y3 y4 y5, LeO (portreeveref04_Right.j4 k y0 y1 y2 y3 y4 y5) (portreeveref04_Right.j4 (k + 1) y0 y1 y2 y3 y4 y5)) ∧ (∀ y0 y1 y2 y3 y4, LeO (portreeveref04_Right.l2 k y0 y1 y2 y3 y4) (portreeveref04_Right.l2 (k + 1) y0 y1 y2 y3 y4)) ∧ (∀ y0 y1 y2 y3 y4 y5, LeO (portreeveref04_Right.j6 k y0 y1 y2 y3 y4 y5) (portreeveref04_Right.j6 (k + 1) y0 y1 y2 y3 y4 y5))
 | 0 => ⟨fun _ _ _ _ _ r h => by simp [portreeveref04_Right.j0] at h, fun _ _ _ _ _ r h => by simp [portreeveref04_Right.l0] at h, fun _ _ _ _ _ _ r h => by simp [portreeveref04_Right.j2] at h, fun _ _ _ _ _ r h => by simp [portreeveref04_Right.l1] at h, fun _ _ _ _ _ _ r h => by simp [portreeveref04_Right.j4] at h, fun _ _ _ _ _ r h => by simp [portreeveref04_Right.l2] at h, fun _ _ _ _ _ _ r h => by simp [portreeveref04_Right.j6] at h⟩
 | k + 1 => by
  obtain ⟨ih0, ih1, ih2, ih3, ih4, ih5, ih6⟩ := portreeveref04_Right.mono_l k
  refine ⟨?_, ?_, ?_, ?_, ?_, ?_, ?_⟩
  ·intro y0 y1 y2 y3 y4
   unfold portreeveref04_Right.j0
   repeat' first
   | (with_reducible exact ih0 _ _ _ _ _)
   | (with_reducible exact ih1 _ _ _ _ _)
   | (with_reducible exact ih2 _ _ _ _ _ _)
   | (with_reducible exact ih3 _ _ _ _ _)
   | (with_reducible exact ih4 _ _ _ _ _ _)
   | (with_reducible exact ih5 _ _ _ _ _)
   | (with_reducible exact ih6 _ _ _ _ _ _)
   | (with_reducible exact portreeveref04_Failed.mono _ _ _ _ _ _)
   | (with_reducible exact portreeveref04_Of.mono _ _ _ _ _ _)
   | (with_reducible exact portreeveref04_last.mono _ _ _ _ _ _ _)
   | (with_reducible exact portreeveref04_line.mono _ _ _ _ _ _)
   | (with_reducible exact portreeveref04_open.mono _ _ _ _ _)
   | (with_reducible exact LeO.refl _)
   | (with_reducible exact LeO.none _)
   | (with_reducible refine LeO.ite ?_ ?_)
   | (with_reducible refine LeO.bind ?_ (fun _ => ?_))
   | exact ih0 _ _ _ _ _
   | exact ih1 _ _ _ _ _
   | exact ih2 _ _ _ _ _ _
   | exact ih3 _ _ _ _ _
   | exact ih4 _ _ _ _ _ _
   | exact ih5 _ _ _ _ _
   | exact ih6 _ _ _ _ _ _
   | exact portreeveref04_Failed.mono _ _ _ _ _ _
   | exact portreeveref04_Of.mono _ _ _ _ _ _
   | exact portreeveref04_last.mono _ _ _ _ _ _ _
   | exact portreeveref04_line.mono _ _ _ _ _ _
   | exact portreeveref04_open.mono _ _ _ _ _
   | exact LeO.none _
   | refine LeO.ite ?_ ?_
   | refine LeO.bind ?_ (fun _ => ?_)
  ·intro y0 y1 y2 y3 y4
   unfold portreeveref04_Right.l0
   repeat' first
   | (with_reducible exact ih0 _ _ _ _ _)
   | (with_reducible exact ih1 _ _ _ _ _)
   | (with_reducible exact ih2 _ _ _ _ _ _)
   | (with_reducible exact ih3 _ _ _ _ _)
   | (with_reducible exact ih4 _ _ _ _ _ _)
   | (with_reducible exact ih5 _ _ _ _ _)
   | (with_reducible exact ih6 _ _ _ _ _ _)
   | (with_reducible exact portreeveref04_Failed.mono _ _ _ _ _ _)
   | (with_reducible exact portreeveref04_Of.mono _ _ _ _ _ _)
   | (with_reducible exact portreeveref04_last.mono _ _ _ _ _ _ _)
   | (with_reducible exact portreeveref04_line.mono _ _ _ _ _ _)
   | (with_reducible exact portreeveref04_open.mono _ _ _ _ _)
   | (with_reducible exact LeO.refl _)
   | (with_reducible exact LeO.none _)
   | (with_reducible refine LeO.ite ?_ ?_)
   | (with_reducible refine LeO.bind ?_ (fun _ => ?_))
   | exact ih0 _ _ _ _ _
   | exact ih1 _ _ _ _ _
   | exact ih2 _ _ _ _ _ _
   | exact ih3 _ _ _ _ _
   | exact ih4 _ _ _ _ _ _
   | exact ih5 _ _ _ _ _
   | exact ih6 _ _ _ _ _ _
   | exact portreeveref04_Failed.mono _ _ _ _ _ _
   | exact portreeveref04_Of.mono _ _ _ _ _ _
   | exact portreeveref04_last.mono _ _ _ _ _ _ _
   | exact portreeveref04_line.mono _ _ _ _ _ _
   | exact portreeveref04_open.mono _ _ _ _ _
   | exact LeO.none _
   | refine LeO.ite ?_ ?_
   | refine LeO.bind ?_ (fun _ => ?_)
  ·intro y0 y1 y2 y3 y4 y5
   unfold portreeveref04_Right.j2
   repeat' first
   | (with_reducible exact ih0 _ _ _ _ _)
   | (with_reducible exact ih1 _ _ _ _ _)
   | (with_reducible exact ih2 _ _ _ _ _ _)
   | (with_reducible exact ih3 _ _ _ _ _)
   | (with_reducible exact ih4 _ _ _ _ _ _)
   | (with_reducible exact ih5 _ _ _ _ _)
   | (with_reducible exact ih6 _ _ _ _ _ _)
   | (with_reducible exact portreeveref04_Failed.mono _ _ _ _ _ _)
   | (with_reducible exact portreeveref04_Of.mono _ _ _ _ _ _)
   | (with_reducible exact portreeveref04_last.mono _ _ _ _ _ _ _)
   | (with_reducible exact portreeveref04_line.mono _ _ _ _ _ _)
   | (with_reducible exact portreeveref04_open.mono _ _ _ _ _)
   | (with_reducible exact LeO.refl _)
   | (with_reducible exact LeO.none _)
   | (with_reducible refine LeO.ite ?_ ?_)
   | (with_reducible refine LeO.bind ?_ (fun _ => ?_))
   | exact ih0 _ _ _ _ _
   | exact ih1 _ _ _ _ _
   | exact ih2 _ _ _ _ _ _
   | exact ih3 _ _ _ _ _
   | exact ih4 _ _ _ _ _ _
   | exact ih5 _ _ _ _ _
   | exact ih6 _ _ _ _ _ _
   | exact portreeveref04_Failed.mono _ _ _ _ _ _
   | exact portreeveref04_Of.mono _ _ _ _ _ _
   | exact portreeveref04_last.mono _ _ _ _ _ _ _
   | exact portreeveref04_line.mono _ _ _ _ _ _
   | exact portreeveref04_open.mono _ _ _ _ _
   | exact LeO.none _
   | refine LeO.ite ?_ ?_
   | refine LeO.bind ?_ (fun _ => ?_)
  ·intro y0 y1 y2 y3 y4
   unfold portreeveref04_Right.l1
   repeat' first
   | (with_reducible exact ih0 _ _ _ _ _)
   | (with_reducible exact ih1 _ _ _ _ _)
   | (with_reducible exact ih2 _ _ _ _ _ _)
   | (with_reducible exact ih3 _ _ _ _ _)
   | (with_reducible exact ih4 _ _ _ _ _ _)
   | (with_reducible exact ih5 _ _ _ _ _)
   | (with_reducible exact ih6 _ _ _ _ _ _)
   | (with_reducible exact portreeveref04_Failed.mono _ _ _ _ _ _)
   | (with_reducible exact portreeveref04_Of.mono _ _ _ _ _ _)
   | (with_reducible exact portreeveref04_last.mono _ _ _ _ _ _ _)
   | (with_reducible exact portreeveref04_line.mono _ _ _ _ _ _)
   | (with_reducible exact portreeveref04_open.mono _ _ _ _ _)
   | (with_reducible exact LeO.refl _)
   | (with_reducible exact LeO.none _)
   | (with_reducible refine LeO.ite ?_ ?_)
   | (with_reducible refine LeO.bind ?_ (fun _ => ?_))
   | exact ih0 _ _ _ _ _
   | exact ih1 _ _ _ _ _
   | exact ih2 _ _ _ _ _ _
   | exact ih3 _ _ _ _ _
   | exact ih4 _ _ _ _ _ _
   | exact ih5 _ _ _ _ _
   | exact ih6 _ _ _ _ _ _
   | exact portreeveref04_Failed.mono _ _ _ _ _ _
   | exact portreeveref04_Of.mono _ _ _ _ _ _
   | exact portreeveref04_last.mono _ _ _ _ _ _ _
   | exact portreeveref04_line.mono _ _ _ _ _ _
   | exact portreeveref04_open.mono _ _ _ _ _
   | exact LeO.none _
   | refine LeO.ite ?_ ?_
   | refine LeO.bind ?_ (fun _ => ?_)
  ·intro y0 y1 y2 y3 y4 y5
   unfold portreeveref04_Right.j4
   repeat' first
   | (with_reducible exact ih0 _ _ _ _ _)
   | (with_reducible exact ih1 _ _ _ _ _)
   | (with_reducible exact ih2 _ _ _ _ _ _)
   | (with_reducible exact ih3 _ _ _ _ _)
   | (with_reducible exact ih4 _ _ _ _ _ _)
   | (with_reducible exact ih5 _ _ _ _ _)
   | (with_reducible exact ih6 _ _ _ _ _ _)
   | (with_reducible exact portreeveref04_Failed.mono _ _ _ _ _ _)
   | (with_reducible exact portreeveref04_Of.mono _ _ _ _ _ _)
   | (with_reducible exact portreeveref04_last.mono _ _ _ _ _ _ _)
   | (with_reducible exact portreeveref04_line.mono _ _ _ _ _ _)
   | (with_reducible exact portreeveref04_open.mono _ _ _ _ _)
   | (with_reducible exact LeO.refl _)
   | (with_reducible exact LeO.none _)
   | (with_reducible refine LeO.ite ?_ ?_)
   | (with_reducible refine LeO.bind ?_ (fun _ => ?_))
   | exact ih0 _ _ _ _ _
   | exact ih1 _ _ _ _ _
   | exact ih2 _ _ _ _ _ _
   | exact ih3 _ _ _ _ _
   | exact ih4 _ _ _ _ _ _
   | exact ih5 _ _ _ _ _
   | exact ih6 _ _ _ _ _ _
   | exact portreeveref04_Failed.mono _ _ _ _ _ _
   | exact portreeveref04_Of.mono _ _ _ _ _ _
   | exact portreeveref04_last.mono _ _ _ _ _ _ _
   | exact portreeveref04_line.mono _ _ _ _ _ _
   | exact portreeveref04_open.mono _ _ _ _ _
   | exact LeO.none _
   | refine LeO.ite ?_ ?_
   | refine LeO.bind ?_ (fun _ => ?_)
  ·intro y0 y1 y2 y3 y4
   unfold portreeveref04_Right.l2
   repeat' first
   | (with_reducible exact ih0 _ _ _ _ _)
   | (with_reducible exact ih1 _ _ _ _ _)
   | (with_reducible exact ih2 _ _ _ _ _ _)
   | (with_reducible exact ih3 _ _ _ _ _)
   | (with_reducible exact ih4 _ _ _ _ _ _)
   | (with_reducible exact ih5 _ _ _ _ _)
   | (with_reducible exact ih6 _ _ _ _ _ _)
   | (with_reducible exact portreeveref04_Failed.mono _ _ _ _ _ _)
   | (with_reducible exact portreeveref04_Of.mono _ _ _ _ _ _)
   | (with_reducible exact portreeveref04_last.mono _ _ _ _ _ _ _)
   | (with_reducible exact portreeveref04_line.mono _ _ _ _ _ _)
   | (with_reducible exact portreeveref04_open.mono _ _ _ _ _)
   | (with_reducible exact LeO.refl _)
   | (with_reducible exact LeO.none _)
   | (with_reducible refine LeO.ite ?_ ?_)
   | (with_reducible refine LeO.bind ?_ (fun _ => ?_))
   | exact ih0 _ _ _ _ _
   | exact ih1 _ _ _ _ _
   | exact ih2 _ _ _ _ _ _
   | exact ih3 _ _ _ _ _
   | exact ih4 _ _ _ _ _ _
   | exact ih5 _ _ _ _ _
   | exact ih6 _ _ _ _ _ _
   | exact portreeveref04_Failed.mono _ _ _ _ _ _
   | exact portreeveref04_Of.mono _ _ _ _ _ _
   | exact portreeveref04_last.mono _ _ _ _ _ _ _
   | exact portreeveref04_line.mono _ _ _ _ _ _
   | exact portreeveref04_open.mono _ _ _ _ _
   | exact LeO.none _
   | refine LeO.ite ?_ ?_
   | refine LeO.bind ?_ (fun _ => ?_)
  ·intro y0 y1 y2 y3 y4 y5
   unfold portreeveref04_Right.j6
   repeat' first
   | (with_reducible exact ih0 _ _ _ _ _)
   | (with_reducible exact ih1 _ _ _ _ _)
   | (with_reducible exact ih2 _ _ _ _ _ _)
   | (with_reducible exact ih3 _ _ _ _ _)
   | (with_reducible exact ih4 _ _ _ _ _ _)
   | (with_reducible exact ih5 _ _ _ _ _)
   | (with_reducible exact ih6 _ _ _ _ _ _)
   | (with_reducible exact portreeveref04_Failed.mono _ _ _ _ _ _)
   | (with_reducible exact portreeveref04_Of.mono _ _ _ _ _ _)
   | (with_reducible exact portreeveref04_last.mono _ _ _ _ _ _ _)
   | (with_reducible exact portreeveref04_line.mono _ _ _ _ _ _)
   | (with_reducible exact portreeveref04_open.mono _ _ _ _ _)
   | (with_reducible exact LeO.refl _)
   | (with_reducible exact LeO.none _)
   | (with_reducible refine LeO.ite ?_ ?_)
   | (with_reducible refine LeO.bind ?_ (fun _ => ?_))
   | exact ih0 _ _ _ _ _
   | exact ih1 _ _ _ _ _
   | exact ih2 _ _ _ _ _ _
   | exact ih3 _ _ _ _ _
   | exact ih4 _ _ _ _ _ _
   | exact ih5 _ _ _ _ _
   | exact ih6 _ _ _ _ _ _
   | exact portreeveref04_Failed.mono _ _ _ _ _ _
   | exact portreeveref04_Of.mono _ _ _ _ _ _
   | exact portreeveref04_last.mono _ _ _ _ _ _ _
   | exact portreeveref04_line.mono _ _ _ _ _ _
   | exact portreeveref04_open.mono _ _ _ _ _
   | exact LeO.none _
   | refine LeO.ite ?_ ?_
   | refine LeO.bind ?_ (fun _ => ?_)
theorem portreeveref04_Right.mono : ∀ a0 a1 a2 a3 k, LeO (portreeveref04_Right.f k a0 a1 a2 a3) (portreeveref04_Right.f (k + 1) a0 a1 a2 a3) := by
 intro a0 a1 a2 a3 k
 obtain ⟨ih0, ih1, ih2, ih3, ih4, ih5, ih6⟩ := portreeveref04_Right.mono_l k
 unfold portreeveref04_Right.f
 repeat' first
   | (with_reducible exact ih0 _ _ _ _ _)
   | (with_reducible exact ih1 _ _ _ _ _)
   | (with_reducible exact ih2 _ _ _ _ _ _)
   | (with_reducible exact ih3 _ _ _ _ _)
   | (with_reducible exact ih4 _ _ _ _ _ _)
   | (with_reducible exact ih5 _ _ _ _ _)
   | (with_reducible exact ih6 _ _ _ _ _ _)
   | (with_reducible exact portreeveref04_Failed.mono _ _ _ _ _ _)
   | (with_reducible exact portreeveref04_Of.mono _ _ _ _ _ _)
   | (with_reducible exact portreeveref04_last.mono _ _ _ _ _ _ _)
   | (with_reducible exact portreeveref04_line.mono _ _ _ _ _ _)
   | (with_reducible exact portreeveref04_open.mono _ _ _ _ _)
   | (with_reducible exact LeO.refl _)
   | (with_reducible exact LeO.none _)
   | (with_reducible refine LeO.ite ?_ ?_)
   | (with_reducible refine LeO.bind ?_ (fun _ => ?_))
   | exact ih0 _ _ _ _ _
   | exact ih1 _ _ _ _ _
   | exact ih2 _ _ _ _ _ _
   | exact ih3 _ _ _ _ _
   | exact ih4 _ _ _ _ _ _
   | exact ih5 _ _ _ _ _
   | exact ih6 _ _ _ _ _ _
   | exact portreeveref04_Failed.mono _ _ _ _ _ _
   | exact portreeveref04_Of.mono _ _ _ _ _ _
   | exact portreeveref04_last.mono _ _ _ _ _ _ _
   | exact portreeveref04_line.mono _ _ _ _ _ _
   | exact portreeveref04_open.mono _ _ _ _ _
   | exact LeO.none _
   | refine LeO.ite ?_ ?_
   | refine LeO.bind ?_ (fun _ => ?_)
def portreeveref04_Right.T12 : Bool × List (List Nat × List Nat) := (true, [([], []), ([], []), ([1], [1]), ([], []), ([2, 3], [2, 3]), ([4], [4]), ([5], [5]), ([], []), ([7], [7]), ([8], [8]), ([0, 6, 9], [0, 6, 9]), ([], []), ([10, 11], [10, 11]), ([12, 10, 0, 1, 2, 3, 4, 5, 6, 7, 8, 9, 10, 11, 12], [12])])
def portreeveref04_Right.B12 : List Nat := [0, 0, 2, 0, 14, 30, 62, 0, 128, 384, 1023, 0, 4095, 8191]
theorem portreeveref04_Right.tab12 : rtab .any (opsOf Try.f17 12) = portreeveref04_Right.T12 := by kernel_rfl
theorem portreeveref04_Right.bits12 : waitsOk portreeveref04_Right.T12.2 portreeveref04_Right.B12 = true := by kernel_rfl
def portreeveref04_Right.T13 : Bool × List (List Nat × List Nat) := (true, [([], []), ([], []), ([1], [1]), ([], []), ([2, 3], [2, 3]), ([4], [4]), ([5], [5]), ([0, 6], [0, 6]), ([7], [7]), ([8, 7, 0, 1, 2, 3, 4, 5, 6, 7, 8], [8])])
def portreeveref04_Right.B13 : List Nat := [0, 0, 2, 0, 14, 30, 62, 127, 255, 511]
theorem portreeveref04_Right.tab13 : rtab .any (opsOf Try.f17 13) = portreeveref04_Right.T13 := by kernel_rfl
theorem portreeveref04_Right.bits13 : waitsOk portreeveref04_Right.T13.2 portreeveref04_Right.B13 = true := by kernel_rfl
def portreeveref04_Right.T19 : Bool × List (List Nat × List Nat) := (true, [([], []), ([], []), ([1], [1]), ([], []), ([2, 3], [2, 3]), ([4], [4]), ([5], [5]), ([], []), ([7], [7]), ([8], [8]), ([0, 6, 9], [0, 6, 9]), ([10, 10, 0, 1, 2, 3, 4, 5, 6, 7, 8, 9, 10], [10])])
def portreeveref04_Right.B19 : List Nat := [0, 0, 2, 0, 14, 30, 62, 0, 128, 384, 1023, 2047]
theorem portreeveref04_Right.tab19 : rtab .any (opsOf Try.f17 19) = portreeveref04_Right.T19 := by kernel_rfl
theorem portreeveref04_Right.bits19 : waitsOk portreeveref04_Right.T19.2 portreeveref04_Right.B19 = true := by kernel_rfl
def portreeveref04_Right.T20 : Bool × List (List Nat × List Nat) := (true, [([], []), ([0], [0]), ([1], [1]), ([2], [2]), ([3, 2], [2, 3]), ([2], [2]), ([4, 5, 2], [2, 4, 5]), ([6, 2], [2, 6]), ([7, 2], [2, 7]), ([2], [2]), ([9, 2], [2, 9]), ([2], [2]), ([10, 11, 2], [2, 10, 11]), ([12, 2], [2, 12]), ([13, 2], [2, 13]), ([8, 14, 2], [2, 8, 14]), ([2, 15], [2, 15]), ([16, 2], [16]), ([17], [17]), ([18, 17], [17, 18]), ([17], [17]), ([19, 20, 17], [17, 19, 20]), ([21, 17], [17, 21]), ([22, 17], [17, 22]), ([17], [17]), ([24, 17], [17, 24]), ([17], [17]), ([25, 26, 17], [17, 25, 26]), ([27, 17], [17, 27]), ([28, 17], [17, 28]), ([23, 29, 17], [17, 23, 29]), ([17, 30], [17, 30])])
def portreeveref04_Right.B20 : List Nat := [0, 1, 3, 7, 15, 7, 63, 127, 255, 7, 519, 7, 3591, 7687, 15879, 32767, 65535, 131071, 262143, 524287, 262143, 2097151, 4194303, 8388607, 262143, 17039359, 262143, 117702655, 251920383, 520355839, 1073741823, 2147483647]
theorem portreeveref04_Right.tab20 : rtab .any (opsOf Try.f17 20) = portreeveref04_Right.T20 := by kernel_rfl
theorem portreeveref04_Right.bits20 : waitsOk portreeveref04_Right.T20.2 portreeveref04_Right.B20 = true := by kernel_rfl
set_option maxHeartbeats 8000000 in
set_option maxRecDepth 100000 in
theorem portreeveref04_Right.calls (k : Nat) (a0_0 : Int) (A0_1 : Option Addr) (c0_1 : Nat) (l0_1 : List (S76)) (A0_2 : Option Addr) (c0_2 : Nat) (l0_2 : List (S72)) (A0_3 : Option Addr) (c0_3 : Nat) (l0_3 : List (S64)) (r : Bool) (w : World) (hr0_1 : Kd.C k76 w A0_1 l0_1.length l0_1) (hc0_1 : l0_1.length ≤ c0_1) (hr0_2 : Kd.C k72 w A0_2 l0_2.length l0_2) (hc0_2 : l0_2.length ≤ c0_2) (hr0_3 : Kd.C k64 w A0_3 l0_3.length l0_3) (hc0_3 : l0_3.length ≤ c0_3) (h : portreeveref04_Right.f k a0_0 l0_1 l0_2 l0_3 = some r) :
  Calls Try.prog 17 #[.agg #[.int .i64 a0_0, .slice A0_1 l0_1.length c0_1, .slice A0_2 l0_2.length c0_2, .slice A0_3 l0_3.length c0_3]] w fun e w' => e = .returned (.bool r) ∧ Below w.heap.size w w' := by
 have hu26 := Try.underlying26
 have hu72 := Try.underlying72
 have hu76 := Try.underlying76
 have hu64 := Try.underlying64
 have HR0_1 := Aside0.mk hr0_1
 have HC0_1 := Aside0.mk hc0_1
 clear hr0_1 hc0_1
 have HR0_2 := Aside0.mk hr0_2
 have HC0_2 := Aside0.mk hc0_2
 clear hr0_2 hc0_2
 have HR0_3 := Aside0.mk hr0_3
 have HC0_3 := Aside0.mk hc0_3
 clear hr0_3 hc0_3
 have HB := Aside0.mk (Below.refl w.heap.size w)
 have H : (if a0_0 < 0 then (portreeveref04_Right.j0 k true a0_0 l0_1 l0_2 l0_3) else (if a0_0 > 1000000000 then (portreeveref04_Right.j0 k true a0_0 l0_1 l0_2 l0_3) else (if (wrap64 ((l0_2.length : Int) + (l0_1.length : Int))) > 60 then (portreeveref04_Right.j0 k true a0_0 l0_1 l0_2 l0_3) else (portreeveref04_Right.j0 k (decide ((l0_3.length : Int) > 8)) a0_0 l0_1 l0_2 l0_3)))) = some r := h
 clear h
 have HC2 := Aside0.mk H
 clear H
 go_enter Try.func17, Try.ntmps17
 go_upto_region 1 with (first | ((with_reducible refine gate_dst (N := 1) rfl ?_); (try (refine gate_guard (by rfl) ?_; dsimp only)); refine box_event ?hg (N := 1) ?hd (cs := #[.int .i64 a0_0, .slice A0_1 l0_1.length c0_1, .slice A0_2 l0_2.length c0_2, .slice A0_3 l0_3.length c0_3]) (t := 26) ?hr ?_; (case hd => rfl); (case hg => rfl); (case hr => first | (go_simp; done) | (go_simp; rfl)); intro gb174 hg w3 hbox hb; have n0_ := Aside0.mk (below_step (zH HB.out) hb); have n1_ := Aside0.mk (hbox); have n2_ := Aside0.mk ((by rw [hg]; exact (below_size (zH HB.out)) : w.heap.size ≤ gb174)); have n3_ := Aside0.mk ((by rw [hg]; exact (below_size (zH HB.out)) : w.heap.size ≤ gb174)); clear HB; have HB := n0_; have BK174 := n1_; have GW174 := n2_; have GE174 := n3_; clear n0_ n1_ n2_ n3_; clear hb hbox hg))
 (try simp only [Act.put, sT, s0, s1])
 go_cut [36] (fun v36 wc => ∃ (kq : Nat) (x36_1 : Bool), v36 = .bool x36_1 ∧ Aside0 (portreeveref04_Right.j0 kq x36_1 a0_0 l0_1 l0_2 l0_3 = some r) ∧ Aside0 (kq ≤ k) ∧ Aside0 (wc.heap[gb174]? = some (.cells #[.int .i64 a0_0, (.slice A0_1 l0_1.length c0_1), (.slice A0_2 l0_2.length c0_2), (.slice A0_3 l0_3.length c0_3)] 26 (0, 0))) ∧ Aside0 (Below w.heap.size w wc))
 case first =>
  have H := HC2.out
  clear HC2
  by_cases c4 : a0_0 < 0
  ·rw [if_pos c4] at H
   have c4b0 : decide (a0_0 < 0) = true := decide_eq_true c4
   clear c4
   (first | rw [c4b0] | (simp only [i64_w, i32_w]; rw [c4b0]) | skip)
   have H' := Aside0.mk H
   clear H
   obtain ⟨hcz5_0, hcz5_1, hcz5_2, hcz5_3, hfz5_0, hfz5_1, hfz5_2, hfz5_3⟩ := bk4 BK174.out
   go_wp2
   go_meet_ [c4b0]
   case rel => exact ⟨_, (true), (by first | rfl | (simp; done) | (simp [*]; done)), H', ⟨by first | omega | exact Nat.le_refl _⟩, ⟨zB BK174.out⟩, ⟨by repeat (first | (with_reducible first | exact HB.out | apply pA | apply pN | apply pD | refine pS ?_ GE174.out) | exact HB.out)⟩⟩
  ·rw [if_neg c4] at H
   have c4b0 : decide (a0_0 < 0) = false := decide_eq_false c4
   clear c4
   (first | rw [c4b0] | (simp only [i64_w, i32_w]; rw [c4b0]) | skip)
   by_cases c6 : a0_0 > 1000000000
   ·rw [if_pos c6] at H
    have c6b0 : decide (1000000000 < a0_0) = true := decide_eq_true c6
    clear c6
    have H' := Aside0.mk H
    clear H
    obtain ⟨hcz7_0, hcz7_1, hcz7_2, hcz7_3, hfz7_0, hfz7_1, hfz7_2, hfz7_3⟩ := bk4 BK174.out
    go_wp2
    go_meet_ [c4b0, c6b0]
    case rel => exact ⟨_, (true), (by first | rfl | (simp; done) | (simp [*]; done)), H', ⟨by first | omega | exact Nat.le_refl _⟩, ⟨zB BK174.out⟩, ⟨by repeat (first | (with_reducible first | exact HB.out | apply pA | apply pN | apply pD | refine pS ?_ GE174.out) | exact HB.out)⟩⟩
   ·rw [if_neg c6] at H
    have c6b0 : decide (1000000000 < a0_0) = false := decide_eq_false c6
    clear c6
    by_cases c8 : (wrap64 ((l0_2.length : Int) + (l0_1.length : Int))) > 60
    ·rw [if_pos c8] at H
     have c8b0 : decide (60 < (wrap64 ((l0_2.length : Int) + (l0_1.length : Int)))) = true := decide_eq_true c8
     clear c8
     have H' := Aside0.mk H
     clear H
     obtain ⟨hcz9_0, hcz9_1, hcz9_2, hcz9_3, hfz9_0, hfz9_1, hfz9_2, hfz9_3⟩ := bk4 BK174.out
     go_wp2
     go_meet_ [c4b0, c6b0, c8b0]
     case rel => exact ⟨_, (true), (by first | rfl | (simp; done) | (simp [*]; done)), H', ⟨by first | omega | exact Nat.le_refl _⟩, ⟨zB BK174.out⟩, ⟨by repeat (first | (with_reducible first | exact HB.out | apply pA | apply pN | apply pD | refine pS ?_ GE174.out) | exact HB.out)⟩⟩
    ·rw [if_neg c8] at H
     have c8b0 : decide (60 < (wrap64 ((l0_2.length : Int) + (l0_1.length : Int)))) = false := decide_eq_false c8
     clear c8
     have H' := Aside0.mk H
     clear H
     obtain ⟨hcz10_0, hcz10_1, hcz10_2, hcz10_3, hfz10_0, hfz10_1, hfz10_2, hfz10_3⟩ := bk4 BK174.out
     go_wp2
     go_meet_ [c4b0, c6b0, c8b0]
     case rel => exact ⟨_, (decide ((l0_3.length : Int) > 8)), (by first | rfl | (simp; done) | (simp [*]; done)), H', ⟨by first | omega | exact Nat.le_refl _⟩, ⟨zB BK174.out⟩, ⟨by repeat (first | (with_reducible first | exact HB.out | apply pA | apply pN | apply pD | refine pS ?_ GE174.out) | exact HB.out)⟩⟩
 case rest =>
  clear HC2
  try clear c1
  try clear p2
  try clear c4
  try clear c4b0
  try clear c6
  try clear c6b0
  try clear p6
  try clear c8
  try clear c8b0
  try clear hcz10_0
  try clear hcz10_1
  try clear hcz10_2
  try clear hcz10_3
  try clear hcz5_0
  try clear hcz5_1
  try clear hcz5_2
  try clear hcz5_3
  try clear hcz7_0
  try clear hcz7_1
  try clear hcz7_2
  try clear hcz7_3
  try clear hcz9_0
  try clear hcz9_1
  try clear hcz9_2
  try clear hcz9_3
  try clear hfz10_0
  try clear hfz10_1
  try clear hfz10_2
  try clear hfz10_3
  try clear hfz5_0
  try clear hfz5_1
  try clear hfz5_2
  try clear hfz5_3
  try clear hfz7_0
  try clear hfz7_1
  try clear hfz7_2
  try clear hfz7_3
  try clear hfz9_0
  try clear hfz9_1
  try clear hfz9_2
  try clear hfz9_3
  obtain ⟨kq, x36_1, rfl, HA, HJ1, BK174, HB⟩ := hcut
  cases kq with
  | zero => exact absurd HA.out (by simp [portreeveref04_Right.j0])
  | succ kj1 =>
   have H := HA.out
   clear HA
   simp only [portreeveref04_Right.j0] at H
   by_cases c11 : x36_1 = true
   ·subst c11
    have H1 : (some false) = some r := by rw [if_pos rfl] at H; exact H
    clear H
    have H := H1
    clear H1
    obtain rfl := Option.some.inj H
    go_wp2
    go_ret
    exact ⟨by first | rfl | (simp [errW_none, errW_some] <;> rfl) | (simp [*, errW_none, errW_some] <;> rfl), by repeat (first | (with_reducible first | exact HB.out | apply pA | apply pN | apply pD | refine pS ?_ GE174.out) | exact HB.out)⟩
   ·replace c11 := Bool.eq_false_iff.mpr c11
    subst c11
    have H1 : ((portreeveref04_open.f kj1 a0_0 l0_1 l0_2 l0_3).bind fun t175 => (if t175 = true then (portreeveref04_Right.l0 kj1 0 a0_0 l0_1 l0_2 l0_3) else (some false))) = some r := by rw [if_neg (show ¬ (false = true) by decide)] at H; exact H
    clear H
    have H := H1
    clear H1
    replace H := Option.bind_eq_some_iff.mp H
    obtain ⟨t175, A120, H⟩ := H
    replace H : (if t175 = true then (portreeveref04_Right.l0 kj1 0 a0_0 l0_1 l0_2 l0_3) else (some false)) = some r := H
    have A12 := Aside0.mk A120
    clear A120
    by_cases c13 : t175 = true
    ·subst c13
     have H1 : (portreeveref04_Right.l0 kj1 0 a0_0 l0_1 l0_2 l0_3) = some r := by rw [if_pos rfl] at H; exact H
     clear H
     have H := H1
     clear H1
     have H' := Aside0.mk H
     clear H
     obtain ⟨hcz14_0, hcz14_1, hcz14_2, hcz14_3, hfz14_0, hfz14_1, hfz14_2, hfz14_3⟩ := bk4 BK174.out
     go_wp2_with (first | ((with_reducible refine gate_callee (f := 26) rfl ?_); refine goesL_ (some 38) rfl rfl Try.func26 (by kernel_rfl) rfl #[.agg #[.int .i64 a0_0, .slice A0_1 l0_1.length c0_1, .slice A0_2 l0_2.length c0_2, .slice A0_3 l0_3.length c0_3]] rfl (by (try simp only [List.map_toArray, List.map_cons, List.map_nil]); first | done | rfl | (simp only [List.length_drop, List.length_take]; rfl)) ?_; (with_reducible refine (portreeveref04_open.calls kj1 a0_0 _ _ l0_1 _ _ l0_2 _ _ l0_3 true _ ?side1 ?side2 ?side3 ?side4 ?side5 ?side6 A12.out).mono ?_); (case side1 => repeat (first | exact (Kd.C_below HR0_1.out HB.out) | (with_reducible refine Kd.C_alloc ?_ _) | (with_reducible refine Kd.C_drewN ?_ _) | (with_reducible refine Kd.C_drew ?_))); (case side2 => exact HC0_1.out); (case side3 => repeat (first | exact (Kd.C_below HR0_2.out HB.out) | (with_reducible refine Kd.C_alloc ?_ _) | (with_reducible refine Kd.C_drewN ?_ _) | (with_reducible refine Kd.C_drew ?_))); (case side4 => exact HC0_2.out); (case side5 => repeat (first | exact (Kd.C_below HR0_3.out HB.out) | (with_reducible refine Kd.C_alloc ?_ _) | (with_reducible refine Kd.C_drewN ?_ _) | (with_reducible refine Kd.C_drew ?_))); (case side6 => exact HC0_3.out); rintro e w15 ⟨rfl, hb⟩; refine ⟨_, rfl, ?_⟩; have n0_ := Aside0.mk (blk_below (g := gb174) (o := .cells #[.int .i64 a0_0, .slice A0_1 l0_1.length c0_1, .slice A0_2 l0_2.length c0_2, .slice A0_3 l0_3.length c0_3] 26 (0, 0)) (zB BK174.out) hb); have n1_ := Aside0.mk (below_step (by repeat (first | (with_reducible first | exact HB.out | apply pA | apply pN | apply pD | refine pS ?_ GE174.out) | exact HB.out)) hb); clear BK174; clear HB; have BK174 := n0_; have HB := n1_; clear n0_ n1_; (try clear hb); (try clear hb2); (try clear hk); (try clear hi)))
     go_loopg [4] kj1 (fun kq v4 w' => ∃ (x4_2 : Int), v4 = .int .i64 x4_2 ∧ Aside0 (portreeveref04_Right.l0 kq x4_2 a0_0 l0_1 l0_2 l0_3 = some r) ∧ Aside0 (kq ≤ kj1) ∧ Aside0 (w'.heap[gb174]? = some (.cells #[.int .i64 a0_0, (.slice A0_1 l0_1.length c0_1), (.slice A0_2 l0_2.length c0_2), (.slice A0_3 l0_3.length c0_3)] 26 (0, 0))) ∧ Aside0 (Below w.heap.size w w'))
     case atStart => exact ⟨(0), (by first | rfl | (simp; done) | (simp [*]; done)), H', ⟨Nat.le_refl _⟩, ⟨zB BK174.out⟩, ⟨by repeat (first | (with_reducible first | exact HB.out | apply pA | apply pN | apply pD | refine pS ?_ GE174.out) | exact HB.out)⟩⟩
     case round =>
      clear H'
      try clear c1
      try clear c2
      try clear p2
      try clear c4
      try clear c4b0
      try clear c6
      try clear c6b0
      try clear p6
      try clear c8
      try clear c8b0
      try clear c11
      try clear c13
      try clear hcz10_0
      try clear hcz10_1
      try clear hcz10_2
      try clear hcz10_3
      try clear hcz14_0
      try clear hcz14_1
      try clear hcz14_2
      try clear hcz14_3
      try clear hcz5_0
      try clear hcz5_1
      try clear hcz5_2
      try clear hcz5_3
      try clear hcz7_0
      try clear hcz7_1
      try clear hcz7_2
      try clear hcz7_3
      try clear hcz9_0
      try clear hcz9_1
      try clear hcz9_2
      try clear hcz9_3
      try clear hfz10_0
      try clear hfz10_1
      try clear hfz10_2
      try clear hfz10_3
      try clear hfz14_0
      try clear hfz14_1
      try clear hfz14_2
      try clear hfz14_3
      try clear hfz5_0
      try clear hfz5_1
      try clear hfz5_2
      try clear hfz5_3
      try clear hfz7_0
      try clear hfz7_1
      try clear hfz7_2
      try clear hfz7_3
      try clear hfz9_0
      try clear hfz9_1
      try clear hfz9_2
      try clear hfz9_3
      try clear p2
      try clear p6
      obtain ⟨x4_2, rfl, HA, HK2, BK174, HB⟩ := hrel
      cases gk with
      | zero => exact absurd HA.out (by simp [portreeveref04_Right.l0])
      | succ k2 =>
       have H := HA.out
       clear HA
       simp only [portreeveref04_Right.l0] at H
       by_cases c16 : x4_2 < (l0_2.length : Int)
       ·rw [if_pos c16] at H
        have c16b0 : decide (x4_2 < (l0_2.length : Int)) = true := decide_eq_true c16
        clear c16
        replace H := Option.bind_eq_some_iff.mp H
        obtain ⟨t176, A170, H⟩ := H
        replace H : (if t176 = true then (if 0 ≤ x4_2 then ((portreeveref04_last.f k2 a0_0 l0_1 l0_2 l0_3 ((rd_T72 l0_2 x4_2).f1) (l0_2.length : Int)).bind fun t178 => ((portreeveref04_Of.f k2 a0_0 l0_1 l0_2 l0_3 ((rd_T72 l0_2 x4_2).f1)).bind fun t180 => (if t178 = x4_2 then (portreeveref04_Right.j2 k2 x4_2 ((decide (t180 ≥ 0)) == (((rd_T72 l0_2 x4_2).f0) == 3)) a0_0 l0_1 l0_2 l0_3) else (portreeveref04_Right.j2 k2 x4_2 false a0_0 l0_1 l0_2 l0_3)))) else (none)) else (some false)) = some r := H
        have A17 := Aside0.mk A170
        clear A170
        by_cases c18 : t176 = true
        ·subst c18
         have H1 : (if 0 ≤ x4_2 then ((portreeveref04_last.f k2 a0_0 l0_1 l0_2 l0_3 ((rd_T72 l0_2 x4_2).f1) (l0_2.length : Int)).bind fun t178 => ((portreeveref04_Of.f k2 a0_0 l0_1 l0_2 l0_3 ((rd_T72 l0_2 x4_2).f1)).bind fun t180 => (if t178 = x4_2 then (portreeveref04_Right.j2 k2 x4_2 ((decide (t180 ≥ 0)) == (((rd_T72 l0_2 x4_2).f0) == 3)) a0_0 l0_1 l0_2 l0_3) else (portreeveref04_Right.j2 k2 x4_2 false a0_0 l0_1 l0_2 l0_3)))) else (none)) = some r := by rw [if_pos rfl] at H; exact H
         clear H
         have H := H1
         clear H1
         by_cases c19 : 0 ≤ x4_2
         ·rw [if_pos c19] at H
          have c19b0 : decide (0 ≤ x4_2) = true := decide_eq_true c19
          clear c19
          replace H := Option.bind_eq_some_iff.mp H
          obtain ⟨t178, A200, H⟩ := H
          replace H : ((portreeveref04_Of.f k2 a0_0 l0_1 l0_2 l0_3 ((rd_T72 l0_2 x4_2).f1)).bind fun t180 => (if t178 = x4_2 then (portreeveref04_Right.j2 k2 x4_2 ((decide (t180 ≥ 0)) == (((rd_T72 l0_2 x4_2).f0) == 3)) a0_0 l0_1 l0_2 l0_3) else (portreeveref04_Right.j2 k2 x4_2 false a0_0 l0_1 l0_2 l0_3))) = some r := H
          have A20 := Aside0.mk A200
          clear A200
          replace H := Option.bind_eq_some_iff.mp H
          obtain ⟨t180, A210, H⟩ := H
          replace H : (if t178 = x4_2 then (portreeveref04_Right.j2 k2 x4_2 ((decide (t180 ≥ 0)) == (((rd_T72 l0_2 x4_2).f0) == 3)) a0_0 l0_1 l0_2 l0_3) else (portreeveref04_Right.j2 k2 x4_2 false a0_0 l0_1 l0_2 l0_3)) = some r := H
          have A21 := Aside0.mk A210
          clear A210
          have HC22 := Aside0.mk H
          clear H
          obtain ⟨hcz23_0, hcz23_1, hcz23_2, hcz23_3, hfz23_0, hfz23_1, hfz23_2, hfz23_3⟩ := bk4 BK174.out
          try go_wp2_with (first | ((with_reducible refine gate_callee (f := 27) rfl ?_); refine goesL_ (some 50) rfl rfl Try.func27 (by kernel_rfl) rfl #[.agg #[.int .i64 a0_0, .slice A0_1 l0_1.length c0_1, .slice A0_2 l0_2.length c0_2, .slice A0_3 l0_3.length c0_3], .int .i64 x4_2] rfl (by (try simp only [List.map_toArray, List.map_cons, List.map_nil]); first | done | rfl | (simp only [List.length_drop, List.length_take]; rfl)) ?_; (with_reducible refine (portreeveref04_line.calls k2 a0_0 _ _ l0_1 _ _ l0_2 _ _ l0_3 x4_2 true _ ?side1 ?side2 ?side3 ?side4 ?side5 ?side6 A17.out).mono ?_); (case side1 => repeat (first | exact (Kd.C_below HR0_1.out HB.out) | (with_reducible refine Kd.C_alloc ?_ _) | (with_reducible refine Kd.C_drewN ?_ _) | (with_reducible refine Kd.C_drew ?_))); (case side2 => exact HC0_1.out); (case side3 => repeat (first | exact (Kd.C_below HR0_2.out HB.out) | (with_reducible refine Kd.C_alloc ?_ _) | (with_reducible refine Kd.C_drewN ?_ _) | (with_reducible refine Kd.C_drew ?_))); (case side4 => exact HC0_2.out); (case side5 => repeat (first | exact (Kd.C_below HR0_3.out HB.out) | (with_reducible refine Kd.C_alloc ?_ _) | (with_reducible refine Kd.C_drewN ?_ _) | (with_reducible refine Kd.C_drew ?_))); (case side6 => exact HC0_3.out); rintro e w24 ⟨rfl, hb⟩; refine ⟨_, rfl, ?_⟩; have n0_ := Aside0.mk (blk_below (g := gb174) (o := .cells #[.int .i64 a0_0, .slice A0_1 l0_1.length c0_1, .slice A0_2 l0_2.length c0_2, .slice A0_3 l0_3.length c0_3] 26 (0, 0)) (zB BK174.out) hb); have n1_ := Aside0.mk (below_step (by repeat (first | (with_reducible first | exact HB.out | apply pA | apply pN | apply pD | refine pS ?_ GE174.out) | exact HB.out)) hb); clear BK174; clear HB; have BK174 := n0_; have HB := n1_; clear n0_ n1_; (try clear hb); (try clear hb2); (try clear hk); (try clear hi)))
          have n0_ := Aside0.mk (qD BK174.out)
          have n1_ := Aside0.mk (pD HB.out)
          clear BK174
          clear HB
          have BK174 := n0_
          have HB := n1_
          clear n0_ n1_
          have p177 : 0 ≤ (x4_2 : Int) := of_decide_eq_true (by first | (with_reducible assumption) | assumption)
          have q177 : x4_2 < (l0_2.length : Int) := of_decide_eq_true (by first | (with_reducible assumption) | assumption)
          obtain ⟨ad177, e177, hx177_0, hx177_1, hx177_2, hx177_3, hx177_4⟩ := at_T72 HR0_2.out x4_2 p177 q177
          have hw177_4 := hx177_4
          have hw177_3 := hx177_3
          have hw177_2 := hx177_2
          have hw177_1 := hx177_1
          have hw177_0 := hx177_0
          cases e177
          replace hx177_0 := (HB.out.cell (World.block_lt_of_cell? w _ hx177_0)).trans hx177_0
          replace hx177_1 := (HB.out.cell (World.block_lt_of_cell? w _ hx177_1)).trans hx177_1
          replace hx177_2 := (HB.out.cell (World.block_lt_of_cell? w _ hx177_2)).trans hx177_2
          replace hx177_3 := (HB.out.cell (World.block_lt_of_cell? w _ hx177_3)).trans hx177_3
          replace hx177_4 := (HB.out.cell (World.block_lt_of_cell? w _ hx177_4)).trans hx177_4
          replace p177 := eq_true p177
          replace q177 := eq_true q177
          refine start_ (n := 14) (S := fun w' => w'.cell? ⟨gb174, 0, none⟩ = some (.int .i64 a0_0) ∧ w'.cell? ⟨gb174, 1, none⟩ = some (.slice A0_1 l0_1.length c0_1) ∧ w'.cell? ⟨gb174, 2, none⟩ = some (.slice (some ad177) l0_2.length c0_2) ∧ w'.cell? ⟨gb174, 3, none⟩ = some (.slice A0_3 l0_3.length c0_3) ∧ w'.cell? (ad177.add ((x4_2).toNat * 5)) = some (.int .i64 ((rd_T72 l0_2 x4_2).f0)) ∧ w'.cell? ⟨(ad177.add ((x4_2).toNat * 5)).block, (ad177.add ((x4_2).toNat * 5)).off + 1, none⟩ = some (.int .i64 ((rd_T72 l0_2 x4_2).f1)) ∧ w'.cell? ⟨(ad177.add ((x4_2).toNat * 5)).block, (ad177.add ((x4_2).toNat * 5)).off + 2, none⟩ = some (.int .u64 ((rd_T72 l0_2 x4_2).f2)) ∧ w'.cell? ⟨(ad177.add ((x4_2).toNat * 5)).block, (ad177.add ((x4_2).toNat * 5)).off + 3, none⟩ = some (.int .u64 ((rd_T72 l0_2 x4_2).f3)) ∧ w'.cell? ⟨(ad177.add ((x4_2).toNat * 5)).block, (ad177.add ((x4_2).toNat * 5)).off + 4, none⟩ = some (.int .i64 ((rd_T72 l0_2 x4_2).f4))) (ds := []) #[false, false, false, false, false, false, false, false, false, false, false, false, false, false] (by kernel_rfl) rfl rfl ⟨(blk_cell BK174.out 0).trans rfl, (blk_cell BK174.out 1).trans rfl, (blk_cell BK174.out 2).trans rfl, (blk_cell BK174.out 3).trans rfl, ((HB.out.cell (World.block_lt_of_cell? w _ hw177_0)).trans hw177_0), ((HB.out.cell (World.block_lt_of_cell? w _ hw177_1)).trans hw177_1), ((HB.out.cell (World.block_lt_of_cell? w _ hw177_2)).trans hw177_2), ((HB.out.cell (World.block_lt_of_cell? w _ hw177_3)).trans hw177_3), ((HB.out.cell (World.block_lt_of_cell? w _ hw177_4)).trans hw177_4)⟩ (fun hHeld => ?_); refine with_tabW portreeveref04_Right.tab12 portreeveref04_Right.bits12 (fun HT_ HW_ => ?_)
          generalize w24.drew = w25 at BK174 HB hx177_0 hx177_1 hx177_2 hx177_3 hx177_4 hHeld ⊢
          refine pure_ (i := 1) (N := some 54) (v := ?_) (a' := ?_) #[false, true, false, false, false, false, false, false, false, false, false, false, false, false] rfl rfl (any_of HT_.out (by kernel_rfl)) (fun _ _ _ h => h) (Or.inl ⟨by rfl, ?_⟩) ?_ ?_
          rotate_left
          ·intro w'
           go_simp
           with_reducible rfl
          rotate_left
          ·simp only [Act.put, sT, s0, s1, i64_w, i32_w]
           rfl
          refine pure_ (i := 3) (N := some 56) (v := ?_) (a' := ?_) #[false, true, false, true, false, false, false, false, false, false, false, false, false, false] rfl rfl (any_of HT_.out (by kernel_rfl)) (fun _ _ _ h => h) (Or.inl ⟨by rfl, ?_⟩) ?_ ?_
          rotate_left
          ·intro w'
           go_simp
           with_reducible rfl
          rotate_left
          ·simp only [Act.put, sT, s0, s1, i64_w, i32_w]
           rfl
          refine pure_ (i := 7) (N := some 60) (v := ?_) (a' := ?_) #[false, true, false, true, false, false, false, true, false, false, false, false, false, false] rfl rfl (any_of HT_.out (by kernel_rfl)) (fun _ _ _ h => h) (Or.inl ⟨by rfl, ?_⟩) ?_ ?_
          rotate_left
          ·intro w'
           go_simp
           with_reducible rfl
          rotate_left
          ·simp only [Act.put, sT, s0, s1, i64_w, i32_w]
           rfl
          refine pure_ (i := 11) (N := some 64) (v := ?_) (a' := ?_) #[false, true, false, true, false, false, false, true, false, false, false, true, false, false] rfl rfl (any_of HT_.out (by kernel_rfl)) (fun _ _ _ h => h) (Or.inl ⟨by rfl, ?_⟩) ?_ ?_
          rotate_left
          ·intro w'
           go_simp
           with_reducible rfl
          rotate_left
          ·simp only [Act.put, sT, s0, s1, i64_w, i32_w]
           rfl
          refine take_ (i := 0) (N := some 53) (v := ?_) (a' := ?_) #[true, true, false, true, false, false, false, true, false, false, false, true, false, false] rfl rfl (take_ofW HT_.out HW_.out (by kernel_rfl)) (fun _ _ _ h => h) (Or.inl ⟨by rfl, ?_⟩) hHeld ?_ ?_
          rotate_left
          ·rintro w' ⟨s0, s1, s2, s3, s4, s5, s6, s7, s8⟩
           go_simp
           with_reducible rfl
          rotate_left
          ·simp only [Act.put, sT, s0, s1, i64_w, i32_w]
           rfl
          refine take_ (i := 2) (N := some 55) (v := ?_) (a' := ?_) #[true, true, true, true, false, false, false, true, false, false, false, true, false, false] rfl rfl (take_ofW HT_.out HW_.out (by kernel_rfl)) (fun _ _ _ h => h) (Or.inl ⟨by rfl, ?_⟩) hHeld ?_ ?_
          rotate_left
          ·rintro w' ⟨s0, s1, s2, s3, s4, s5, s6, s7, s8⟩
           go_simp
           with_reducible rfl
          rotate_left
          ·simp only [Act.put, sT, s0, s1, i64_w, i32_w]
           rfl
          refine pure_ (i := 4) (N := some 57) (v := ?_) (a' := ?_) #[true, true, true, true, true, false, false, true, false, false, false, true, false, false] rfl rfl (any_of HT_.out (by kernel_rfl)) (fun _ _ _ h => h) (Or.inl ⟨by rfl, ?_⟩) ?_ ?_
          rotate_left
          ·intro w'
           go_simp
           with_reducible rfl
          rotate_left
          ·simp only [Act.put, sT, s0, s1, i64_w, i32_w]
           rfl
          refine pure_ (i := 5) (N := some 58) (v := ?_) (a' := ?_) #[true, true, true, true, true, true, false, true, false, false, false, true, false, false] rfl rfl (any_of HT_.out (by kernel_rfl)) (fun _ _ _ h => h) (Or.inl ⟨by rfl, ?_⟩) ?_ ?_
          rotate_left
          ·intro w'
           go_simp
           with_reducible rfl
          rotate_left
          ·simp only [Act.put, sT, s0, s1, i64_w, i32_w]
           rfl
          refine take_ (i := 6) (N := some 59) (v := ?_) (a' := ?_) #[true, true, true, true, true, true, true, true, false, false, false, true, false, false] rfl rfl (take_ofW HT_.out HW_.out (by kernel_rfl)) (fun _ _ _ h => h) (Or.inl ⟨by rfl, ?_⟩) hHeld ?_ ?_
          rotate_left
          ·rintro w' ⟨s0, s1, s2, s3, s4, s5, s6, s7, s8⟩
           go_simp
           with_reducible rfl
          rotate_left
          ·simp only [Act.put, sT, s0, s1, i64_w, i32_w]
           rfl
          refine take_ (i := 8) (N := some 61) (v := ?_) (a' := ?_) #[true, true, true, true, true, true, true, true, true, false, false, true, false, false] rfl rfl (take_ofW HT_.out HW_.out (by kernel_rfl)) (fun _ _ _ h => h) (Or.inl ⟨by rfl, ?_⟩) hHeld ?_ ?_
          rotate_left
          ·rintro w' ⟨s0, s1, s2, s3, s4, s5, s6, s7, s8⟩
           go_simp
           with_reducible rfl
          rotate_left
          ·simp only [Act.put, sT, s0, s1, i64_w, i32_w]
           rfl
          refine pure_ (i := 9) (N := some 62) (v := ?_) (a' := ?_) #[true, true, true, true, true, true, true, true, true, true, false, true, false, false] rfl rfl (any_of HT_.out (by kernel_rfl)) (fun _ _ _ h => h) (Or.inl ⟨by rfl, ?_⟩) ?_ ?_
          rotate_left
          ·intro w'
           go_simp
           with_reducible rfl
          rotate_left
          ·simp only [Act.put, sT, s0, s1, i64_w, i32_w]
           rfl
          refine one_ (i := 10) (N := some 63) #[true, true, true, true, true, true, true, true, true, true, true, true, false, false] rfl rfl (one_of HT_.out (by kernel_rfl)) (by decide) (fun K hK => ?_)
          refine goes_ Try.func28 (by kernel_rfl) rfl #[.agg #[.int .i64 a0_0, .slice A0_1 l0_1.length c0_1, .slice (some ad177) l0_2.length c0_2, .slice A0_3 l0_3.length c0_3], .int .i64 ((rd_T72 l0_2 x4_2).f1), .int .i64 (l0_2.length : Int)] (by rfl) rfl rfl (by (try simp only [List.map_toArray, List.map_cons, List.map_nil]); first | done | rfl | (simp only [List.length_drop, List.length_take]; rfl)) ?_
          with_reducible refine (portreeveref04_last.calls k2 a0_0 _ _ l0_1 _ _ l0_2 _ _ l0_3 ((rd_T72 l0_2 x4_2).f1) (l0_2.length : Int) t178 _ ?side1 ?side2 ?side3 ?side4 ?side5 ?side6 A20.out).mono ?_
          (case side1 => repeat (first | exact (Kd.C_below HR0_1.out HB.out) | (with_reducible refine Kd.C_alloc ?_ _) | (with_reducible refine Kd.C_drewN ?_ _) | (with_reducible refine Kd.C_drew ?_)))
          (case side2 => exact HC0_1.out)
          (case side3 => repeat (first | exact (Kd.C_below HR0_2.out HB.out) | (with_reducible refine Kd.C_alloc ?_ _) | (with_reducible refine Kd.C_drewN ?_ _) | (with_reducible refine Kd.C_drew ?_)))
          (case side4 => exact HC0_2.out)
          (case side5 => repeat (first | exact (Kd.C_below HR0_3.out HB.out) | (with_reducible refine Kd.C_alloc ?_ _) | (with_reducible refine Kd.C_drewN ?_ _) | (with_reducible refine Kd.C_drew ?_)))
          (case side6 => exact HC0_3.out)
          rintro e w26 ⟨rfl, hb⟩
          refine ⟨_, rfl, ?_⟩
          have n0_ := Aside0.mk (blk_below (g := gb174) (o := .cells #[.int .i64 a0_0, .slice A0_1 l0_1.length c0_1, .slice (some ad177) l0_2.length c0_2, .slice A0_3 l0_3.length c0_3] 26 (0, 0)) (zB BK174.out) hb)
          have n1_ := Aside0.mk (below_step (by repeat (first | (with_reducible first | exact HB.out | apply pA | apply pN | apply pD | refine pS ?_ GE174.out) | exact HB.out)) hb)
          clear BK174
          clear HB
          have BK174 := n0_
          have HB := n1_
          clear n0_ n1_
          (try clear hb)
          (try clear hb2)
          (try clear hk)
          (try clear hi)
          refine hK.out _ _ ⟨(blk_cell BK174.out 0).trans rfl, (blk_cell BK174.out 1).trans rfl, (blk_cell BK174.out 2).trans rfl, (blk_cell BK174.out 3).trans rfl, ((HB.out.cell (World.block_lt_of_cell? w _ hw177_0)).trans hw177_0), ((HB.out.cell (World.block_lt_of_cell? w _ hw177_1)).trans hw177_1), ((HB.out.cell (World.block_lt_of_cell? w _ hw177_2)).trans hw177_2), ((HB.out.cell (World.block_lt_of_cell? w _ hw177_3)).trans hw177_3), ((HB.out.cell (World.block_lt_of_cell? w _ hw177_4)).trans hw177_4)⟩ (fun hHeld => ?_)
          clear hK K
          refine norm_ (a' := ?_) ?_ ?_
          rotate_left
          ·show Act.put _ (some 63) _ = _
           simp only [Act.put, sT, s0, s1, i64_w, i32_w]
           rfl
          refine pure_ (i := 12) (N := some 65) (v := ?_) (a' := ?_) #[true, true, true, true, true, true, true, true, true, true, true, true, true, false] rfl rfl (any_of HT_.out (by kernel_rfl)) (fun _ _ _ h => h) (Or.inl ⟨by rfl, ?_⟩) ?_ ?_
          rotate_left
          ·intro w'
           go_simp
           with_reducible rfl
          rotate_left
          ·simp only [Act.put, sT, s0, s1, i64_w, i32_w]
           rfl
          refine pure_ (i := 13) (N := some 6) (v := ?_) (a' := ?_) #[true, true, true, true, true, true, true, true, true, true, true, true, true, true] rfl rfl (any_of HT_.out (by kernel_rfl)) (fun _ _ _ h => h) (Or.inl ⟨by rfl, ?_⟩) ?_ ?_
          rotate_left
          ·intro w'
           go_simp
           with_reducible rfl
          rotate_left
          ·simp only [Act.put, sT, s0, s1, i64_w, i32_w]
           rfl
          refine done_ (done_of HT_.out (by kernel_rfl)) ?_
          try go_wp2
          have n0_ := Aside0.mk (qD BK174.out)
          have n1_ := Aside0.mk (pD HB.out)
          clear BK174
          clear HB
          have BK174 := n0_
          have HB := n1_
          clear n0_ n1_
          have p179 : 0 ≤ (x4_2 : Int) := of_decide_eq_true (by first | (with_reducible assumption) | assumption)
          have q179 : x4_2 < (l0_2.length : Int) := of_decide_eq_true (by first | (with_reducible assumption) | assumption)
          obtain ⟨ad179, e179, hx179_0, hx179_1, hx179_2, hx179_3, hx179_4⟩ := at_T72 HR0_2.out x4_2 p179 q179
          have hw179_4 := hx179_4
          have hw179_3 := hx179_3
          have hw179_2 := hx179_2
          have hw179_1 := hx179_1
          have hw179_0 := hx179_0
          obtain rfl : ad177 = ad179 := (by injection e179)
          replace hx179_0 := (HB.out.cell (World.block_lt_of_cell? w _ hx179_0)).trans hx179_0
          replace hx179_1 := (HB.out.cell (World.block_lt_of_cell? w _ hx179_1)).trans hx179_1
          replace hx179_2 := (HB.out.cell (World.block_lt_of_cell? w _ hx179_2)).trans hx179_2
          replace hx179_3 := (HB.out.cell (World.block_lt_of_cell? w _ hx179_3)).trans hx179_3
          replace hx179_4 := (HB.out.cell (World.block_lt_of_cell? w _ hx179_4)).trans hx179_4
          replace p179 := eq_true p179
          replace q179 := eq_true q179
          refine start_ (n := 10) (S := fun w' => w'.cell? ⟨gb174, 0, none⟩ = some (.int .i64 a0_0) ∧ w'.cell? ⟨gb174, 1, none⟩ = some (.slice A0_1 l0_1.length c0_1) ∧ w'.cell? ⟨gb174, 2, none⟩ = some (.slice (some ad177) l0_2.length c0_2) ∧ w'.cell? ⟨gb174, 3, none⟩ = some (.slice A0_3 l0_3.length c0_3) ∧ w'.cell? (ad177.add ((x4_2).toNat * 5)) = some (.int .i64 ((rd_T72 l0_2 x4_2).f0)) ∧ w'.cell? ⟨(ad177.add ((x4_2).toNat * 5)).block, (ad177.add ((x4_2).toNat * 5)).off + 1, none⟩ = some (.int .i64 ((rd_T72 l0_2 x4_2).f1)) ∧ w'.cell? ⟨(ad177.add ((x4_2).toNat * 5)).block, (ad177.add ((x4_2).toNat * 5)).off + 2, none⟩ = some (.int .u64 ((rd_T72 l0_2 x4_2).f2)) ∧ w'.cell? ⟨(ad177.add ((x4_2).toNat * 5)).block, (ad177.add ((x4_2).toNat * 5)).off + 3, none⟩ = some (.int .u64 ((rd_T72 l0_2 x4_2).f3)) ∧ w'.cell? ⟨(ad177.add ((x4_2).toNat * 5)).block, (ad177.add ((x4_2).toNat * 5)).off + 4, none⟩ = some (.int .i64 ((rd_T72 l0_2 x4_2).f4))) (ds := []) #[false, false, false, false, false, false, false, false, false, false] (by kernel_rfl) rfl rfl ⟨(blk_cell BK174.out 0).trans rfl, (blk_cell BK174.out 1).trans rfl, (blk_cell BK174.out 2).trans rfl, (blk_cell BK174.out 3).trans rfl, ((HB.out.cell (World.block_lt_of_cell? w _ hw179_0)).trans hw179_0), ((HB.out.cell (World.block_lt_of_cell? w _ hw179_1)).trans hw179_1), ((HB.out.cell (World.block_lt_of_cell? w _ hw179_2)).trans hw179_2), ((HB.out.cell (World.block_lt_of_cell? w _ hw179_3)).trans hw179_3), ((HB.out.cell (World.block_lt_of_cell? w _ hw179_4)).trans hw179_4)⟩ (fun hHeld => ?_); refine with_tabW portreeveref04_Right.tab13 portreeveref04_Right.bits13 (fun HT_ HW_ => ?_)
          generalize w26.drew = w27 at BK174 HB hx179_0 hx179_1 hx179_2 hx179_3 hx179_4 hHeld ⊢
          refine pure_ (i := 1) (N := some 67) (v := ?_) (a' := ?_) #[false, true, false, false, false, false, false, false, false, false] rfl rfl (any_of HT_.out (by kernel_rfl)) (fun _ _ _ h => h) (Or.inl ⟨by rfl, ?_⟩) ?_ ?_
          rotate_left
          ·intro w'
           go_simp
           with_reducible rfl
          rotate_left
          ·simp only [Act.put, sT, s0, s1, i64_w, i32_w]
           rfl
          refine pure_ (i := 3) (N := some 69) (v := ?_) (a' := ?_) #[false, true, false, true, false, false, false, false, false, false] rfl rfl (any_of HT_.out (by kernel_rfl)) (fun _ _ _ h => h) (Or.inl ⟨by rfl, ?_⟩) ?_ ?_
          rotate_left
          ·intro w'
           go_simp
           with_reducible rfl
          rotate_left
          ·simp only [Act.put, sT, s0, s1, i64_w, i32_w]
           rfl
          refine take_ (i := 0) (N := some 66) (v := ?_) (a' := ?_) #[true, true, false, true, false, false, false, false, false, false] rfl rfl (take_ofW HT_.out HW_.out (by kernel_rfl)) (fun _ _ _ h => h) (Or.inl ⟨by rfl, ?_⟩) hHeld ?_ ?_
          rotate_left
          ·rintro w' ⟨s0, s1, s2, s3, s4, s5, s6, s7, s8⟩
           go_simp
           with_reducible rfl
          rotate_left
          ·simp only [Act.put, sT, s0, s1, i64_w, i32_w]
           rfl
          refine take_ (i := 2) (N := some 68) (v := ?_) (a' := ?_) #[true, true, true, true, false, false, false, false, false, false] rfl rfl (take_ofW HT_.out HW_.out (by kernel_rfl)) (fun _ _ _ h => h) (Or.inl ⟨by rfl, ?_⟩) hHeld ?_ ?_
          rotate_left
          ·rintro w' ⟨s0, s1, s2, s3, s4, s5, s6, s7, s8⟩
           go_simp
           with_reducible rfl
          rotate_left
          ·simp only [Act.put, sT, s0, s1, i64_w, i32_w]
           rfl
          refine pure_ (i := 4) (N := some 70) (v := ?_) (a' := ?_) #[true, true, true, true, true, false, false, false, false, false] rfl rfl (any_of HT_.out (by kernel_rfl)) (fun _ _ _ h => h) (Or.inl ⟨by rfl, ?_⟩) ?_ ?_
          rotate_left
          ·intro w'
           go_simp
           with_reducible rfl
          rotate_left
          ·simp only [Act.put, sT, s0, s1, i64_w, i32_w]
           rfl
          refine pure_ (i := 5) (N := some 71) (v := ?_) (a' := ?_) #[true, true, true, true, true, true, false, false, false, false] rfl rfl (any_of HT_.out (by kernel_rfl)) (fun _ _ _ h => h) (Or.inl ⟨by rfl, ?_⟩) ?_ ?_
          rotate_left
          ·intro w'
           go_simp
           with_reducible rfl
          rotate_left
          ·simp only [Act.put, sT, s0, s1, i64_w, i32_w]
           rfl
          refine take_ (i := 6) (N := some 72) (v := ?_) (a' := ?_) #[true, true, true, true, true, true, true, false, false, false] rfl rfl (take_ofW HT_.out HW_.out (by kernel_rfl)) (fun _ _ _ h => h) (Or.inl ⟨by rfl, ?_⟩) hHeld ?_ ?_
          rotate_left
          ·rintro w' ⟨s0, s1, s2, s3, s4, s5, s6, s7, s8⟩
           go_simp
           with_reducible rfl
          rotate_left
          ·simp only [Act.put, sT, s0, s1, i64_w, i32_w]
           rfl
          refine one_ (i := 7) (N := some 73) #[true, true, true, true, true, true, true, true, false, false] rfl rfl (one_of HT_.out (by kernel_rfl)) (by decide) (fun K hK => ?_)
          refine goes_ Try.func25 (by kernel_rfl) rfl #[.agg #[.int .i64 a0_0, .slice A0_1 l0_1.length c0_1, .slice (some ad177) l0_2.length c0_2, .slice A0_3 l0_3.length c0_3], .int .i64 ((rd_T72 l0_2 x4_2).f1)] (by rfl) rfl rfl (by (try simp only [List.map_toArray, List.map_cons, List.map_nil]); first | done | rfl | (simp only [List.length_drop, List.length_take]; rfl)) ?_
          with_reducible refine (portreeveref04_Of.calls k2 a0_0 _ _ l0_1 _ _ l0_2 _ _ l0_3 ((rd_T72 l0_2 x4_2).f1) t180 _ ?side1 ?side2 ?side3 ?side4 ?side5 ?side6 A21.out).mono ?_
          (case side1 => repeat (first | exact (Kd.C_below HR0_1.out HB.out) | (with_reducible refine Kd.C_alloc ?_ _) | (with_reducible refine Kd.C_drewN ?_ _) | (with_reducible refine Kd.C_drew ?_)))
          (case side2 => exact HC0_1.out)
          (case side3 => repeat (first | exact (Kd.C_below HR0_2.out HB.out) | (with_reducible refine Kd.C_alloc ?_ _) | (with_reducible refine Kd.C_drewN ?_ _) | (with_reducible refine Kd.C_drew ?_)))
          (case side4 => exact HC0_2.out)
          (case side5 => repeat (first | exact (Kd.C_below HR0_3.out HB.out) | (with_reducible refine Kd.C_alloc ?_ _) | (with_reducible refine Kd.C_drewN ?_ _) | (with_reducible refine Kd.C_drew ?_)))
          (case side6 => exact HC0_3.out)
          rintro e w28 ⟨rfl, hb⟩
          refine ⟨_, rfl, ?_⟩
          have n0_ := Aside0.mk (blk_below (g := gb174) (o := .cells #[.int .i64 a0_0, .slice A0_1 l0_1.length c0_1, .slice (some ad177) l0_2.length c0_2, .slice A0_3 l0_3.length c0_3] 26 (0, 0)) (zB BK174.out) hb)
          have n1_ := Aside0.mk (below_step (by repeat (first | (with_reducible first | exact HB.out | apply pA | apply pN | apply pD | refine pS ?_ GE174.out) | exact HB.out)) hb)
          clear BK174
          clear HB
          have BK174 := n0_
          have HB := n1_
          clear n0_ n1_
          (try clear hb)
          (try clear hb2)
          (try clear hk)
          (try clear hi)
          refine hK.out _ _ ⟨(blk_cell BK174.out 0).trans rfl, (blk_cell BK174.out 1).trans rfl, (blk_cell BK174.out 2).trans rfl, (blk_cell BK174.out 3).trans rfl, ((HB.out.cell (World.block_lt_of_cell? w _ hw179_0)).trans hw179_0), ((HB.out.cell (World.block_lt_of_cell? w _ hw179_1)).trans hw179_1), ((HB.out.cell (World.block_lt_of_cell? w _ hw179_2)).trans hw179_2), ((HB.out.cell (World.block_lt_of_cell? w _ hw179_3)).trans hw179_3), ((HB.out.cell (World.block_lt_of_cell? w _ hw179_4)).trans hw179_4)⟩ (fun hHeld => ?_)
          clear hK K
          refine norm_ (a' := ?_) ?_ ?_
          rotate_left
          ·show Act.put _ (some 73) _ = _
           simp only [Act.put, sT, s0, s1, i64_w, i32_w]
           rfl
          refine pure_ (i := 8) (N := some 74) (v := ?_) (a' := ?_) #[true, true, true, true, true, true, true, true, true, false] rfl rfl (any_of HT_.out (by kernel_rfl)) (fun _ _ _ h => h) (Or.inl ⟨by rfl, ?_⟩) ?_ ?_
          rotate_left
          ·intro w'
           go_simp
           with_reducible rfl
          rotate_left
          ·simp only [Act.put, sT, s0, s1, i64_w, i32_w]
           rfl
          refine pure_ (i := 9) (N := some 7) (v := ?_) (a' := ?_) #[true, true, true, true, true, true, true, true, true, true] rfl rfl (any_of HT_.out (by kernel_rfl)) (fun _ _ _ h => h) (Or.inl ⟨by rfl, ?_⟩) ?_ ?_
          rotate_left
          ·intro w'
           go_simp
           with_reducible rfl
          rotate_left
          ·simp only [Act.put, sT, s0, s1, i64_w, i32_w]
           rfl
          refine done_ (done_of HT_.out (by kernel_rfl)) ?_
          go_upto_region 14 with (fail)
          go_cut [86] (fun v86 wc => ∃ (kq : Nat) (x86_21 : Bool), v86 = .bool x86_21 ∧ Aside0 (portreeveref04_Right.j2 kq x4_2 x86_21 a0_0 l0_1 l0_2 l0_3 = some r) ∧ Aside0 (kq ≤ k2) ∧ Aside0 (wc.heap[gb174]? = some (.cells #[.int .i64 a0_0, (.slice A0_1 l0_1.length c0_1), (.slice (some ad177) l0_2.length c0_2), (.slice A0_3 l0_3.length c0_3)] 26 (0, 0))) ∧ Aside0 (Below w.heap.size w wc))
          case first =>
           have H := HC22.out
           clear HC22
           by_cases c29 : t178 = x4_2
           ·rw [if_pos c29] at H
            have c29b0 : (t178 == x4_2) = true := beq_iff_eq.mpr c29
            have c29b1 : (t178 != x4_2) = false := bne_eq_false_iff_eq.mpr c29
            clear c29
            (first | rw [c29b0] | (simp only [i64_w, i32_w]; rw [c29b0]) | skip)
            have H' := Aside0.mk H
            clear H
            obtain ⟨hcz30_0, hcz30_1, hcz30_2, hcz30_3, hfz30_0, hfz30_1, hfz30_2, hfz30_3⟩ := bk4 BK174.out
            have p181 : 0 ≤ (x4_2 : Int) := of_decide_eq_true (by first | (with_reducible assumption) | assumption)
            have q181 : x4_2 < (l0_2.length : Int) := of_decide_eq_true (by first | (with_reducible assumption) | assumption)
            obtain ⟨ad181, e181, hx181_0, hx181_1, hx181_2, hx181_3, hx181_4⟩ := at_T72 HR0_2.out x4_2 p181 q181
            obtain rfl : ad177 = ad181 := (by injection e181)
            replace hx181_0 := (HB.out.cell (World.block_lt_of_cell? w _ hx181_0)).trans hx181_0
            replace hx181_1 := (HB.out.cell (World.block_lt_of_cell? w _ hx181_1)).trans hx181_1
            replace hx181_2 := (HB.out.cell (World.block_lt_of_cell? w _ hx181_2)).trans hx181_2
            replace hx181_3 := (HB.out.cell (World.block_lt_of_cell? w _ hx181_3)).trans hx181_3
            replace hx181_4 := (HB.out.cell (World.block_lt_of_cell? w _ hx181_4)).trans hx181_4
            replace p181 := eq_true p181
            replace q181 := eq_true q181
            go_wp2
            go_meet_ [c29b0]
            case rel => exact ⟨_, (((decide (t180 ≥ 0)) == (((rd_T72 l0_2 x4_2).f0) == 3))), (by first | rfl | (simp; done) | (simp [*]; done)), H', ⟨by have := HJ1.out; have := HK2.out; first | omega | exact Nat.le_refl _⟩, ⟨zB BK174.out⟩, ⟨by repeat (first | (with_reducible first | exact HB.out | apply pA | apply pN | apply pD | refine pS ?_ GE174.out) | exact HB.out)⟩⟩
           ·rw [if_neg c29] at H
            have c29b0 : (t178 == x4_2) = false := beq_eq_false_iff_ne.mpr c29
            have c29b1 : (t178 != x4_2) = true := bne_iff_ne.mpr c29
            (first | rw [c29b0] | (simp only [i64_w, i32_w]; rw [c29b0]) | skip)
            have H' := Aside0.mk H
            clear H
            go_wp2
            go_meet_ [c29b0]
            case rel => exact ⟨_, (false), (by first | rfl | (simp; done) | (simp [*]; done)), H', ⟨by have := HJ1.out; have := HK2.out; first | omega | exact Nat.le_refl _⟩, ⟨zB BK174.out⟩, ⟨by repeat (first | (with_reducible first | exact HB.out | apply pA | apply pN | apply pD | refine pS ?_ GE174.out) | exact HB.out)⟩⟩
          case rest =>
           clear HC22
           try clear c1
           try clear p1
           try clear q1
           try clear hx1
           try clear c2
           try clear p2
           try clear c4
           try clear c4b0
           try clear c6
           try clear c6b0
           try clear p6
           try clear c8
           try clear c8b0
           try clear c11
           try clear c13
           try clear c16
           try clear c16b0
           try clear p17
           try clear q17
           try clear hx17
           try clear c18
           try clear p18
           try clear q18
           try clear hx18
           try clear c19
           try clear c19b0
           try clear c25
           try clear c26
           try clear c27
           try clear c28
           try clear c29
           try clear c29b0
           try clear c29b1
           try clear hcz10_0
           try clear hcz10_1
           try clear hcz10_2
           try clear hcz10_3
           try clear hcz14_0
           try clear hcz14_1
           try clear hcz14_2
           try clear hcz14_3
           try clear hcz23_0
           try clear hcz23_1
           try clear hcz23_2
           try clear hcz23_3
           try clear hcz30_0
           try clear hcz30_1
           try clear hcz30_2
           try clear hcz30_3
           try clear hcz5_0
           try clear hcz5_1
           try clear hcz5_2
           try clear hcz5_3
           try clear hcz7_0
           try clear hcz7_1
           try clear hcz7_2
           try clear hcz7_3
           try clear hcz9_0
           try clear hcz9_1
           try clear hcz9_2
           try clear hcz9_3
           try clear hfz10_0
           try clear hfz10_1
           try clear hfz10_2
           try clear hfz10_3
           try clear hfz14_0
           try clear hfz14_1
           try clear hfz14_2
           try clear hfz14_3
           try clear hfz23_0
           try clear hfz23_1
           try clear hfz23_2
           try clear hfz23_3
           try clear hfz30_0
           try clear hfz30_1
           try clear hfz30_2
           try clear hfz30_3
           try clear hfz5_0
           try clear hfz5_1
           try clear hfz5_2
           try clear hfz5_3
           try clear hfz7_0
           try clear hfz7_1
           try clear hfz7_2
           try clear hfz7_3
           try clear hfz9_0
           try clear hfz9_1
           try clear hfz9_2
           try clear hfz9_3
           try clear hx177_0
           try clear hx177_1
           try clear hx177_2
           try clear hx177_3
           try clear hx177_4
           try clear hx179_0
           try clear hx179_1
           try clear hx179_2
           try clear hx179_3
           try clear hx179_4
           try clear hx181_0
           try clear hx181_1
           try clear hx181_2
           try clear hx181_3
           try clear hx181_4
           try clear p177
           try clear p179
           try clear p181
           try clear p2
           try clear p6
           try clear q177
           try clear q179
           try clear q181
           obtain ⟨kq, x86_21, rfl, HA, HJ21, BK174, HB⟩ := hcut
           cases kq with
           | zero => exact absurd HA.out (by simp [portreeveref04_Right.j2])
           | succ kj21 =>
            have H := HA.out
            clear HA
            simp only [portreeveref04_Right.j2] at H
            by_cases c31 : x86_21 = true
            ·subst c31
             have H1 : (some false) = some r := by rw [if_pos rfl] at H; exact H
             clear H
             have H := H1
             clear H1
             obtain rfl := Option.some.inj H
             go_wp2
             go_ret
             exact ⟨by first | rfl | (simp [errW_none, errW_some] <;> rfl) | (simp [*, errW_none, errW_some] <;> rfl), by repeat (first | (with_reducible first | exact HB.out | apply pA | apply pN | apply pD | refine pS ?_ GE174.out) | exact HB.out)⟩
            ·replace c31 := Bool.eq_false_iff.mpr c31
             subst c31
             have H1 : (portreeveref04_Right.l0 kj21 (wrap64 (x4_2 + 1)) a0_0 l0_1 l0_2 l0_3) = some r := by rw [if_neg (show ¬ (false = true) by decide)] at H; exact H
             clear H
             have H := H1
             clear H1
             have H' := Aside0.mk H
             clear H
             go_wp2
             go_roundg kj21
             case measure => have := HJ1.out; have := HK2.out; have := HJ21.out; omega
             case rel => exact ⟨(wrap64 (x4_2 + 1)), (by first | rfl | (simp; done) | (simp [*]; done)), H', ⟨by have := HJ1.out; have := HK2.out; have := HJ21.out; omega⟩, ⟨zB BK174.out⟩, ⟨by repeat (first | (with_reducible first | exact HB.out | apply pA | apply pN | apply pD | refine pS ?_ GE174.out) | exact HB.out)⟩⟩
         ·rw [if_neg c19] at H
          exact absurd H (by simp)
        ·replace c18 := Bool.eq_false_iff.mpr c18
         subst c18
         have H1 : (some false) = some r := by rw [if_neg (show ¬ (false = true) by decide)] at H; exact H
         clear H
         have H := H1
         clear H1
         obtain rfl := Option.some.inj H
         obtain ⟨hcz32_0, hcz32_1, hcz32_2, hcz32_3, hfz32_0, hfz32_1, hfz32_2, hfz32_3⟩ := bk4 BK174.out
         go_wp2_with (first | ((with_reducible refine gate_callee (f := 27) rfl ?_); refine goesL_ (some 50) rfl rfl Try.func27 (by kernel_rfl) rfl #[.agg #[.int .i64 a0_0, .slice A0_1 l0_1.length c0_1, .slice A0_2 l0_2.length c0_2, .slice A0_3 l0_3.length c0_3], .int .i64 x4_2] rfl (by (try simp only [List.map_toArray, List.map_cons, List.map_nil]); first | done | rfl | (simp only [List.length_drop, List.length_take]; rfl)) ?_; (with_reducible refine (portreeveref04_line.calls k2 a0_0 _ _ l0_1 _ _ l0_2 _ _ l0_3 x4_2 false _ ?side1 ?side2 ?side3 ?side4 ?side5 ?side6 A17.out).mono ?_); (case side1 => repeat (first | exact (Kd.C_below HR0_1.out HB.out) | (with_reducible refine Kd.C_alloc ?_ _) | (with_reducible refine Kd.C_drewN ?_ _) | (with_reducible refine Kd.C_drew ?_))); (case side2 => exact HC0_1.out); (case side3 => repeat (first | exact (Kd.C_below HR0_2.out HB.out) | (with_reducible refine Kd.C_alloc ?_ _) | (with_reducible refine Kd.C_drewN ?_ _) | (with_reducible refine Kd.C_drew ?_))); (case side4 => exact HC0_2.out); (case side5 => repeat (first | exact (Kd.C_below HR0_3.out HB.out) | (with_reducible refine Kd.C_alloc ?_ _) | (with_reducible refine Kd.C_drewN ?_ _) | (with_reducible refine Kd.C_drew ?_))); (case side6 => exact HC0_3.out); rintro e w33 ⟨rfl, hb⟩; refine ⟨_, rfl, ?_⟩; have n0_ := Aside0.mk (blk_below (g := gb174) (o := .cells #[.int .i64 a0_0, .slice A0_1 l0_1.length c0_1, .slice A0_2 l0_2.length c0_2, .slice A0_3 l0_3.length c0_3] 26 (0, 0)) (zB BK174.out) hb); have n1_ := Aside0.mk (below_step (by repeat (first | (with_reducible first | exact HB.out | apply pA | apply pN | apply pD | refine pS ?_ GE174.out) | exact HB.out)) hb); clear BK174; clear HB; have BK174 := n0_; have HB := n1_; clear n0_ n1_; (try clear hb); (try clear hb2); (try clear hk); (try clear hi)))
         go_ret
         exact ⟨by first | rfl | (simp [errW_none, errW_some] <;> rfl) | (simp [*, errW_none, errW_some] <;> rfl), by repeat (first | (with_reducible first | exact HB.out | apply pA | apply pN | apply pD | refine pS ?_ GE174.out) | exact HB.out)⟩
       ·rw [if_neg c16] at H
        have c16b0 : decide (x4_2 < (l0_2.length : Int)) = false := decide_eq_false c16
        clear c16
        have H' := Aside0.mk H
        clear H
        obtain ⟨hcz34_0, hcz34_1, hcz34_2, hcz34_3, hfz34_0, hfz34_1, hfz34_2, hfz34_3⟩ := bk4 BK174.out
        go_wp2
        go_loopg [8] k2 (fun kq v8 w' => ∃ (x8_3 : Int), v8 = .int .i64 x8_3 ∧ Aside0 (portreeveref04_Right.l1 kq x8_3 a0_0 l0_1 l0_2 l0_3 = some r) ∧ Aside0 (kq ≤ k2) ∧ Aside0 (w'.heap[gb174]? = some (.cells #[.int .i64 a0_0, (.slice A0_1 l0_1.length c0_1), (.slice A0_2 l0_2.length c0_2), (.slice A0_3 l0_3.length c0_3)] 26 (0, 0))) ∧ Aside0 (Below w.heap.size w w'))
        case atStart => exact ⟨(0), (by first | rfl | (simp; done) | (simp [*]; done)), H', ⟨Nat.le_refl _⟩, ⟨zB BK174.out⟩, ⟨by repeat (first | (with_reducible first | exact HB.out | apply pA | apply pN | apply pD | refine pS ?_ GE174.out) | exact HB.out)⟩⟩
        case round =>
         clear H'
         try clear c1
         try clear p1
         try clear q1
         try clear hx1
         try clear c2
         try clear p2
         try clear c3
         try clear c4
         try clear c4b0
         try clear c6
         try clear c6b0
         try clear p6
         try clear c8
         try clear c8b0
         try clear c11
         try clear c13
         try clear c16
         try clear c16b0
         try clear p17
         try clear q17
         try clear hx17
         try clear c18
         try clear p18
         try clear q18
         try clear hx18
         try clear c19
         try clear c19b0
         try clear c25
         try clear c26
         try clear c27
         try clear c28
         try clear c29
         try clear c29b0
         try clear c29b1
         try clear c31
         try clear hcz10_0
         try clear hcz10_1
         try clear hcz10_2
         try clear hcz10_3
         try clear hcz14_0
         try clear hcz14_1
         try clear hcz14_2
         try clear hcz14_3
         try clear hcz23_0
         try clear hcz23_1
         try clear hcz23_2
         try clear hcz23_3
         try clear hcz30_0
         try clear hcz30_1
         try clear hcz30_2
         try clear hcz30_3
         try clear hcz32_0
         try clear hcz32_1
         try clear hcz32_2
         try clear hcz32_3
         try clear hcz34_0
         try clear hcz34_1
         try clear hcz34_2
         try clear hcz34_3
         try clear hcz5_0
         try clear hcz5_1
         try clear hcz5_2
         try clear hcz5_3
         try clear hcz7_0
         try clear hcz7_1
         try clear hcz7_2
         try clear hcz7_3
         try clear hcz9_0
         try clear hcz9_1
         try clear hcz9_2
         try clear hcz9_3
         try clear hfz10_0
         try clear hfz10_1
         try clear hfz10_2
         try clear hfz10_3
         try clear hfz14_0
         try clear hfz14_1
         try clear hfz14_2
         try clear hfz14_3
         try clear hfz23_0
         try clear hfz23_1
         try clear hfz23_2
         try clear hfz23_3
         try clear hfz30_0
         try clear hfz30_1
         try clear hfz30_2
         try clear hfz30_3
         try clear hfz32_0
         try clear hfz32_1
         try clear hfz32_2
         try clear hfz32_3
         try clear hfz34_0
         try clear hfz34_1
         try clear hfz34_2
         try clear hfz34_3
         try clear hfz5_0
         try clear hfz5_1
         try clear hfz5_2
         try clear hfz5_3
         try clear hfz7_0
         try clear hfz7_1
         try clear hfz7_2
         try clear hfz7_3
         try clear hfz9_0
         try clear hfz9_1
         try clear hfz9_2
         try clear hfz9_3
         try clear hx177_0
         try clear hx177_1
         try clear hx177_2
         try clear hx177_3
         try clear hx177_4
         try clear hx179_0
         try clear hx179_1
         try clear hx179_2
         try clear hx179_3
         try clear hx179_4
         try clear hx181_0
         try clear hx181_1
         try clear hx181_2
         try clear hx181_3
         try clear hx181_4
         try clear p1
         try clear p17
         try clear p177
         try clear p179
         try clear p18
         try clear p181
         try clear p2
         try clear p6
         try clear q1
         try clear q17
         try clear q177
         try clear q179
         try clear q18
         try clear q181
         obtain ⟨x8_3, rfl, HA, HK3, BK174, HB⟩ := hrel
         cases gk with
         | zero => exact absurd HA.out (by simp [portreeveref04_Right.l1])
         | succ k3 =>
          have H := HA.out
          clear HA
          simp only [portreeveref04_Right.l1] at H
          by_cases c35 : x8_3 < (l0_1.length : Int)
          ·rw [if_pos c35] at H
           have c35b0 : decide (x8_3 < (l0_1.length : Int)) = true := decide_eq_true c35
           clear c35
           by_cases c36 : 0 ≤ x8_3
           ·rw [if_pos c36] at H
            have c36b0 : decide (0 ≤ x8_3) = true := decide_eq_true c36
            clear c36
            replace H := Option.bind_eq_some_iff.mp H
            obtain ⟨t183, A370, H⟩ := H
            replace H : (if t183 < 0 then (portreeveref04_Right.j4 k3 x8_3 true a0_0 l0_1 l0_2 l0_3) else (if 0 ≤ t183 then (if t183 < (l0_2.length : Int) then (if ((rd_T72 l0_2 t183).f2) = ((rd_T76 l0_1 x8_3).f4) then (portreeveref04_Right.j4 k3 x8_3 (((rd_T72 l0_2 t183).f3) != ((rd_T76 l0_1 x8_3).f5)) a0_0 l0_1 l0_2 l0_3) else (portreeveref04_Right.j4 k3 x8_3 true a0_0 l0_1 l0_2 l0_3)) else (none)) else (none))) = some r := H
            have A37 := Aside0.mk A370
            clear A370
            have HC38 := Aside0.mk H
            clear H
            obtain ⟨hcz39_0, hcz39_1, hcz39_2, hcz39_3, hfz39_0, hfz39_1, hfz39_2, hfz39_3⟩ := bk4 BK174.out
            try go_wp2
            have n0_ := Aside0.mk (qD BK174.out)
            have n1_ := Aside0.mk (pD HB.out)
            clear BK174
            clear HB
            have BK174 := n0_
            have HB := n1_
            clear n0_ n1_
            have p182 : 0 ≤ (x8_3 : Int) := of_decide_eq_true (by first | (with_reducible assumption) | assumption)
            have q182 : x8_3 < (l0_1.length : Int) := of_decide_eq_true (by first | (with_reducible assumption) | assumption)
            obtain ⟨ad182, e182, hx182_0, hx182_1, hx182_2, hx182_3, hx182_4, hx182_5⟩ := at_T76 HR0_1.out x8_3 p182 q182
            have hw182_5 := hx182_5
            have hw182_4 := hx182_4
            have hw182_3 := hx182_3
            have hw182_2 := hx182_2
            have hw182_1 := hx182_1
            have hw182_0 := hx182_0
            cases e182
            replace hx182_0 := (HB.out.cell (World.block_lt_of_cell? w _ hx182_0)).trans hx182_0
            replace hx182_1 := (HB.out.cell (World.block_lt_of_cell? w _ hx182_1)).trans hx182_1
            replace hx182_2 := (HB.out.cell (World.block_lt_of_cell? w _ hx182_2)).trans hx182_2
            replace hx182_3 := (HB.out.cell (World.block_lt_of_cell? w _ hx182_3)).trans hx182_3
            replace hx182_4 := (HB.out.cell (World.block_lt_of_cell? w _ hx182_4)).trans hx182_4
            replace hx182_5 := (HB.out.cell (World.block_lt_of_cell? w _ hx182_5)).trans hx182_5
            replace p182 := eq_true p182
            replace q182 := eq_true q182
            refine start_ (n := 12) (S := fun w' => w'.cell? ⟨gb174, 0, none⟩ = some (.int .i64 a0_0) ∧ w'.cell? ⟨gb174, 1, none⟩ = some (.slice (some ad182) l0_1.length c0_1) ∧ w'.cell? ⟨gb174, 2, none⟩ = some (.slice A0_2 l0_2.length c0_2) ∧ w'.cell? ⟨gb174, 3, none⟩ = some (.slice A0_3 l0_3.length c0_3) ∧ w'.cell? (ad182.add ((x8_3).toNat * 6)) = some (.int .i64 ((rd_T76 l0_1 x8_3).f0)) ∧ w'.cell? ⟨(ad182.add ((x8_3).toNat * 6)).block, (ad182.add ((x8_3).toNat * 6)).off + 1, none⟩ = some (.int .i64 ((rd_T76 l0_1 x8_3).f1)) ∧ w'.cell? ⟨(ad182.add ((x8_3).toNat * 6)).block, (ad182.add ((x8_3).toNat * 6)).off + 2, none⟩ = some (.int .u32 ((rd_T76 l0_1 x8_3).f2)) ∧ w'.cell? ⟨(ad182.add ((x8_3).toNat * 6)).block, (ad182.add ((x8_3).toNat * 6)).off + 3, none⟩ = some (.string ((rd_T76 l0_1 x8_3).f3)) ∧ w'.cell? ⟨(ad182.add ((x8_3).toNat * 6)).block, (ad182.add ((x8_3).toNat * 6)).off + 4, none⟩ = some (.int .u64 ((rd_T76 l0_1 x8_3).f4)) ∧ w'.cell? ⟨(ad182.add ((x8_3).toNat * 6)).block, (ad182.add ((x8_3).toNat * 6)).off + 5, none⟩ = some (.int .u64 ((rd_T76 l0_1 x8_3).f5))) (ds := []) #[false, false, false, false, false, false, false, false, false, false, false, false] (by kernel_rfl) rfl rfl ⟨(blk_cell BK174.out 0).trans rfl, (blk_cell BK174.out 1).trans rfl, (blk_cell BK174.out 2).trans rfl, (blk_cell BK174.out 3).trans rfl, ((HB.out.cell (World.block_lt_of_cell? w _ hw182_0)).trans hw182_0), ((HB.out.cell (World.block_lt_of_cell? w _ hw182_1)).trans hw182_1), ((HB.out.cell (World.block_lt_of_cell? w _ hw182_2)).trans hw182_2), ((HB.out.cell (World.block_lt_of_cell? w _ hw182_3)).trans hw182_3), ((HB.out.cell (World.block_lt_of_cell? w _ hw182_4)).trans hw182_4), ((HB.out.cell (World.block_lt_of_cell? w _ hw182_5)).trans hw182_5)⟩ (fun hHeld => ?_); refine with_tabW portreeveref04_Right.tab19 portreeveref04_Right.bits19 (fun HT_ HW_ => ?_)
            generalize wr.drew = w40 at BK174 HB hx182_0 hx182_1 hx182_2 hx182_3 hx182_4 hx182_5 hHeld ⊢
            refine pure_ (i := 1) (N := some 95) (v := ?_) (a' := ?_) #[false, true, false, false, false, false, false, false, false, false, false, false] rfl rfl (any_of HT_.out (by kernel_rfl)) (fun _ _ _ h => h) (Or.inl ⟨by rfl, ?_⟩) ?_ ?_
            rotate_left
            ·intro w'
             go_simp
             with_reducible rfl
            rotate_left
            ·simp only [Act.put, sT, s0, s1, i64_w, i32_w]
             rfl
            refine pure_ (i := 3) (N := some 97) (v := ?_) (a' := ?_) #[false, true, false, true, false, false, false, false, false, false, false, false] rfl rfl (any_of HT_.out (by kernel_rfl)) (fun _ _ _ h => h) (Or.inl ⟨by rfl, ?_⟩) ?_ ?_
            rotate_left
            ·intro w'
             go_simp
             with_reducible rfl
            rotate_left
            ·simp only [Act.put, sT, s0, s1, i64_w, i32_w]
             rfl
            refine pure_ (i := 7) (N := some 101) (v := ?_) (a' := ?_) #[false, true, false, true, false, false, false, true, false, false, false, false] rfl rfl (any_of HT_.out (by kernel_rfl)) (fun _ _ _ h => h) (Or.inl ⟨by rfl, ?_⟩) ?_ ?_
            rotate_left
            ·intro w'
             go_simp
             with_reducible rfl
            rotate_left
            ·simp only [Act.put, sT, s0, s1, i64_w, i32_w]
             rfl
            refine take_ (i := 0) (N := some 94) (v := ?_) (a' := ?_) #[true, true, false, true, false, false, false, true, false, false, false, false] rfl rfl (take_ofW HT_.out HW_.out (by kernel_rfl)) (fun _ _ _ h => h) (Or.inl ⟨by rfl, ?_⟩) hHeld ?_ ?_
            rotate_left
            ·rintro w' ⟨s0, s1, s2, s3, s4, s5, s6, s7, s8, s9⟩
             go_simp
             with_reducible rfl
            rotate_left
            ·simp only [Act.put, sT, s0, s1, i64_w, i32_w]
             rfl
            refine take_ (i := 2) (N := some 96) (v := ?_) (a' := ?_) #[true, true, true, true, false, false, false, true, false, false, false, false] rfl rfl (take_ofW HT_.out HW_.out (by kernel_rfl)) (fun _ _ _ h => h) (Or.inl ⟨by rfl, ?_⟩) hHeld ?_ ?_
            rotate_left
            ·rintro w' ⟨s0, s1, s2, s3, s4, s5, s6, s7, s8, s9⟩
             go_simp
             with_reducible rfl
            rotate_left
            ·simp only [Act.put, sT, s0, s1, i64_w, i32_w]
             rfl
            refine pure_ (i := 4) (N := some 98) (v := ?_) (a' := ?_) #[true, true, true, true, true, false, false, true, false, false, false, false] rfl rfl (any_of HT_.out (by kernel_rfl)) (fun _ _ _ h => h) (Or.inl ⟨by rfl, ?_⟩) ?_ ?_
            rotate_left
            ·intro w'
             go_simp
             with_reducible rfl
            rotate_left
            ·simp only [Act.put, sT, s0, s1, i64_w, i32_w]
             rfl
            refine pure_ (i := 5) (N := some 99) (v := ?_) (a' := ?_) #[true, true, true, true, true, true, false, true, false, false, false, false] rfl rfl (any_of HT_.out (by kernel_rfl)) (fun _ _ _ h => h) (Or.inl ⟨by rfl, ?_⟩) ?_ ?_
            rotate_left
            ·intro w'
             go_simp
             with_reducible rfl
            rotate_left
            ·simp only [Act.put, sT, s0, s1, i64_w, i32_w]
             rfl
            refine take_ (i := 6) (N := some 100) (v := ?_) (a' := ?_) #[true, true, true, true, true, true, true, true, false, false, false, false] rfl rfl (take_ofW HT_.out HW_.out (by kernel_rfl)) (fun _ _ _ h => h) (Or.inl ⟨by rfl, ?_⟩) hHeld ?_ ?_
            rotate_left
            ·rintro w' ⟨s0, s1, s2, s3, s4, s5, s6, s7, s8, s9⟩
             go_simp
             with_reducible rfl
            rotate_left
            ·simp only [Act.put, sT, s0, s1, i64_w, i32_w]
             rfl
            refine take_ (i := 8) (N := some 102) (v := ?_) (a' := ?_) #[true, true, true, true, true, true, true, true, true, false, false, false] rfl rfl (take_ofW HT_.out HW_.out (by kernel_rfl)) (fun _ _ _ h => h) (Or.inl ⟨by rfl, ?_⟩) hHeld ?_ ?_
            rotate_left
            ·rintro w' ⟨s0, s1, s2, s3, s4, s5, s6, s7, s8, s9⟩
             go_simp
             with_reducible rfl
            rotate_left
            ·simp only [Act.put, sT, s0, s1, i64_w, i32_w]
             rfl
            refine pure_ (i := 9) (N := some 103) (v := ?_) (a' := ?_) #[true, true, true, true, true, true, true, true, true, true, false, false] rfl rfl (any_of HT_.out (by kernel_rfl)) (fun _ _ _ h => h) (Or.inl ⟨by rfl, ?_⟩) ?_ ?_
            rotate_left
            ·intro w'
             go_simp
             with_reducible rfl
            rotate_left
            ·simp only [Act.put, sT, s0, s1, i64_w, i32_w]
             rfl
            refine one_ (i := 10) (N := some 104) #[true, true, true, true, true, true, true, true, true, true, true, false] rfl rfl (one_of HT_.out (by kernel_rfl)) (by decide) (fun K hK => ?_)
            refine goes_ Try.func28 (by kernel_rfl) rfl #[.agg #[.int .i64 a0_0, .slice (some ad182) l0_1.length c0_1, .slice A0_2 l0_2.length c0_2, .slice A0_3 l0_3.length c0_3], .int .i64 ((rd_T76 l0_1 x8_3).f0), .int .i64 (l0_2.length : Int)] (by rfl) rfl rfl (by (try simp only [List.map_toArray, List.map_cons, List.map_nil]); first | done | rfl | (simp only [List.length_drop, List.length_take]; rfl)) ?_
            with_reducible refine (portreeveref04_last.calls k3 a0_0 _ _ l0_1 _ _ l0_2 _ _ l0_3 ((rd_T76 l0_1 x8_3).f0) (l0_2.length : Int) t183 _ ?side1 ?side2 ?side3 ?side4 ?side5 ?side6 A37.out).mono ?_
            (case side1 => repeat (first | exact (Kd.C_below HR0_1.out HB.out) | (with_reducible refine Kd.C_alloc ?_ _) | (with_reducible refine Kd.C_drewN ?_ _) | (with_reducible refine Kd.C_drew ?_)))
            (case side2 => exact HC0_1.out)
            (case side3 => repeat (first | exact (Kd.C_below HR0_2.out HB.out) | (with_reducible refine Kd.C_alloc ?_ _) | (with_reducible refine Kd.C_drewN ?_ _) | (with_reducible refine Kd.C_drew ?_)))
            (case side4 => exact HC0_2.out)
            (case side5 => repeat (first | exact (Kd.C_below HR0_3.out HB.out) | (with_reducible refine Kd.C_alloc ?_ _) | (with_reducible refine Kd.C_drewN ?_ _) | (with_reducible refine Kd.C_drew ?_)))
            (case side6 => exact HC0_3.out)
            rintro e w41 ⟨rfl, hb⟩
            refine ⟨_, rfl, ?_⟩
            have n0_ := Aside0.mk (blk_below (g := gb174) (o := .cells #[.int .i64 a0_0, .slice (some ad182) l0_1.length c0_1, .slice A0_2 l0_2.length c0_2, .slice A0_3 l0_3.length c0_3] 26 (0, 0)) (zB BK174.out) hb)
            have n1_ := Aside0.mk (below_step (by repeat (first | (with_reducible first | exact HB.out | apply pA | apply pN | apply pD | refine pS ?_ GE174.out) | exact HB.out)) hb)
            clear BK174
            clear HB
            have BK174 := n0_
            have HB := n1_
            clear n0_ n1_
            (try clear hb)
            (try clear hb2)
            (try clear hk)
            (try clear hi)
            refine hK.out _ _ ⟨(blk_cell BK174.out 0).trans rfl, (blk_cell BK174.out 1).trans rfl, (blk_cell BK174.out 2).trans rfl, (blk_cell BK174.out 3).trans rfl, ((HB.out.cell (World.block_lt_of_cell? w _ hw182_0)).trans hw182_0), ((HB.out.cell (World.block_lt_of_cell? w _ hw182_1)).trans hw182_1), ((HB.out.cell (World.block_lt_of_cell? w _ hw182_2)).trans hw182_2), ((HB.out.cell (World.block_lt_of_cell? w _ hw182_3)).trans hw182_3), ((HB.out.cell (World.block_lt_of_cell? w _ hw182_4)).trans hw182_4), ((HB.out.cell (World.block_lt_of_cell? w _ hw182_5)).trans hw182_5)⟩ (fun hHeld => ?_)
            clear hK K
            refine norm_ (a' := ?_) ?_ ?_
            rotate_left
            ·show Act.put _ (some 104) _ = _
             simp only [Act.put, sT, s0, s1, i64_w, i32_w]
             rfl
            refine pure_ (i := 11) (N := some 9) (v := ?_) (a' := ?_) #[true, true, true, true, true, true, true, true, true, true, true, true] rfl rfl (any_of HT_.out (by kernel_rfl)) (fun _ _ _ h => h) (Or.inl ⟨by rfl, ?_⟩) ?_ ?_
            rotate_left
            ·intro w'
             go_simp
             with_reducible rfl
            rotate_left
            ·simp only [Act.put, sT, s0, s1, i64_w, i32_w]
             rfl
            refine done_ (done_of HT_.out (by kernel_rfl)) ?_
            go_upto_region 20 with (fail)
            go_cut [136] (fun v136 wc => ∃ (kq : Nat) (x136_37 : Bool), v136 = .bool x136_37 ∧ Aside0 (portreeveref04_Right.j4 kq x8_3 x136_37 a0_0 l0_1 l0_2 l0_3 = some r) ∧ Aside0 (kq ≤ k3) ∧ Aside0 (wc.heap[gb174]? = some (.cells #[.int .i64 a0_0, (.slice (some ad182) l0_1.length c0_1), (.slice A0_2 l0_2.length c0_2), (.slice A0_3 l0_3.length c0_3)] 26 (0, 0))) ∧ Aside0 (Below w.heap.size w wc))
            case first =>
             have H := HC38.out
             clear HC38
             by_cases c42 : t183 < 0
             ·rw [if_pos c42] at H
              have c42b0 : decide (t183 < 0) = true := decide_eq_true c42
              clear c42
              (first | rw [c42b0] | (simp only [i64_w, i32_w]; rw [c42b0]) | skip)
              have H' := Aside0.mk H
              clear H
              try go_wp2
              have n0_ := Aside0.mk (qD BK174.out)
              have n1_ := Aside0.mk (pD HB.out)
              clear BK174
              clear HB
              have BK174 := n0_
              have HB := n1_
              clear n0_ n1_
              refine start_ (n := 32) (S := fun w' => True) (ds := []) #[false, false, false, false, false, false, false, false, false, false, false, false, false, false, false, false, false, false, false, false, false, false, false, false, false, false, false, false, false, false, false, false] (by kernel_rfl) rfl rfl trivial (fun hHeld => ?_); refine with_tabW portreeveref04_Right.tab20 portreeveref04_Right.bits20 (fun HT_ HW_ => ?_)
              generalize w41.drew = w43 at BK174 HB hHeld ⊢
              refine pure_ (i := 0) (N := some 105) (v := ?_) (a' := ?_) #[true, false, false, false, false, false, false, false, false, false, false, false, false, false, false, false, false, false, false, false, false, false, false, false, false, false, false, false, false, false, false, false] rfl rfl (any_of HT_.out (by kernel_rfl)) (fun _ _ _ h => h) (Or.inl ⟨by rfl, ?_⟩) ?_ ?_
              rotate_left
              ·intro w'
               go_simp
               with_reducible rfl
              rotate_left
              ·simp only [Act.put, sT, s0, s1, i64_w, i32_w]
               rfl
              refine pure_ (i := 1) (N := some 106) (v := ?_) (a' := ?_) #[true, true, false, false, false, false, false, false, false, false, false, false, false, false, false, false, false, false, false, false, false, false, false, false, false, false, false, false, false, false, false, false] rfl rfl (any_of HT_.out (by kernel_rfl)) (fun _ _ _ h => h) (Or.inl ⟨by rfl, ?_⟩) ?_ ?_
              rotate_left
              ·intro w'
               go_simp
               with_reducible rfl
              rotate_left
              ·simp only [Act.put, sT, s0, s1, i64_w, i32_w]
               rfl
              refine pure_ (i := 2) (N := some 107) (v := ?_) (a' := ?_) #[true, true, true, false, false, false, false, false, false, false, false, false, false, false, false, false, false, false, false, false, false, false, false, false, false, false, false, false, false, false, false, false] rfl rfl (any_of HT_.out (by kernel_rfl)) (fun _ _ _ h => h) (Or.inl ⟨by rfl, ?_⟩) ?_ ?_
              rotate_left
              ·intro w'
               go_simp
               with_reducible rfl
              rotate_left
              ·simp only [Act.put, sT, s0, s1, i64_w, i32_w]
               rfl
              refine pure_ (i := 3) (N := some 108) (v := undef) (a' := ?_) #[true, true, true, true, false, false, false, false, false, false, false, false, false, false, false, false, false, false, false, false, false, false, false, false, false, false, false, false, false, false, false, false] rfl rfl (any_of HT_.out (by kernel_rfl)) (fun _ _ _ h => h) (Or.inr ⟨by rfl, rfl⟩) ?_ ?_
              rotate_left
              ·simp only [Act.put, sT, s0, s1, i64_w, i32_w]
               rfl
              refine pure_ (i := 4) (N := some 109) (v := undef) (a' := ?_) #[true, true, true, true, true, false, false, false, false, false, false, false, false, false, false, false, false, false, false, false, false, false, false, false, false, false, false, false, false, false, false, false] rfl rfl (any_of HT_.out (by kernel_rfl)) (fun _ _ _ h => h) (Or.inr ⟨by rfl, rfl⟩) ?_ ?_
              rotate_left
              ·simp only [Act.put, sT, s0, s1, i64_w, i32_w]
               rfl
              refine pure_ (i := 5) (N := some 110) (v := undef) (a' := ?_) #[true, true, true, true, true, true, false, false, false, false, false, false, false, false, false, false, false, false, false, false, false, false, false, false, false, false, false, false, false, false, false, false] rfl rfl (any_of HT_.out (by kernel_rfl)) (fun _ _ _ h => h) (Or.inr ⟨by rfl, rfl⟩) ?_ ?_
              rotate_left
              ·simp only [Act.put, sT, s0, s1, i64_w, i32_w]
               rfl
              refine pure_ (i := 6) (N := some 111) (v := undef) (a' := ?_) #[true, true, true, true, true, true, true, false, false, false, false, false, false, false, false, false, false, false, false, false, false, false, false, false, false, false, false, false, false, false, false, false] rfl rfl (any_of HT_.out (by kernel_rfl)) (fun _ _ _ h => h) (Or.inr ⟨by rfl, rfl⟩) ?_ ?_
              rotate_left
              ·simp only [Act.put, sT, s0, s1, i64_w, i32_w]
               rfl
              refine pure_ (i := 7) (N := some 112) (v := undef) (a' := ?_) #[true, true, true, true, true, true, true, true, false, false, false, false, false, false, false, false, false, false, false, false, false, false, false, false, false, false, false, false, false, false, false, false] rfl rfl (any_of HT_.out (by kernel_rfl)) (fun _ _ _ h => h) (Or.inr ⟨by rfl, rfl⟩) ?_ ?_
              rotate_left
              ·simp only [Act.put, sT, s0, s1, i64_w, i32_w]
               rfl
              refine pure_ (i := 8) (N := some 113) (v := undef) (a' := ?_) #[true, true, true, true, true, true, true, true, true, false, false, false, false, false, false, false, false, false, false, false, false, false, false, false, false, false, false, false, false, false, false, false] rfl rfl (any_of HT_.out (by kernel_rfl)) (fun _ _ _ h => h) (Or.inr ⟨by rfl, rfl⟩) ?_ ?_
              rotate_left
              ·simp only [Act.put, sT, s0, s1, i64_w, i32_w]
               rfl
              refine pure_ (i := 9) (N := some 114) (v := undef) (a' := ?_) #[true, true, true, true, true, true, true, true, true, true, false, false, false, false, false, false, false, false, false, false, false, false, false, false, false, false, false, false, false, false, false, false] rfl rfl (any_of HT_.out (by kernel_rfl)) (fun _ _ _ h => h) (Or.inr ⟨by rfl, rfl⟩) ?_ ?_
              rotate_left
              ·simp only [Act.put, sT, s0, s1, i64_w, i32_w]
               rfl
              refine pure_ (i := 10) (N := some 115) (v := undef) (a' := ?_) #[true, true, true, true, true, true, true, true, true, true, true, false, false, false, false, false, false, false, false, false, false, false, false, false, false, false, false, false, false, false, false, false] rfl rfl (any_of HT_.out (by kernel_rfl)) (fun _ _ _ h => h) (Or.inr ⟨by rfl, rfl⟩) ?_ ?_
              rotate_left
              ·simp only [Act.put, sT, s0, s1, i64_w, i32_w]
               rfl
              refine pure_ (i := 11) (N := some 116) (v := undef) (a' := ?_) #[true, true, true, true, true, true, true, true, true, true, true, true, false, false, false, false, false, false, false, false, false, false, false, false, false, false, false, false, false, false, false, false] rfl rfl (any_of HT_.out (by kernel_rfl)) (fun _ _ _ h => h) (Or.inr ⟨by rfl, rfl⟩) ?_ ?_
              rotate_left
              ·simp only [Act.put, sT, s0, s1, i64_w, i32_w]
               rfl
              refine pure_ (i := 12) (N := some 117) (v := undef) (a' := ?_) #[true, true, true, true, true, true, true, true, true, true, true, true, true, false, false, false, false, false, false, false, false, false, false, false, false, false, false, false, false, false, false, false] rfl rfl (any_of HT_.out (by kernel_rfl)) (fun _ _ _ h => h) (Or.inr ⟨by rfl, rfl⟩) ?_ ?_
              rotate_left
              ·simp only [Act.put, sT, s0, s1, i64_w, i32_w]
               rfl
              refine pure_ (i := 13) (N := some 118) (v := undef) (a' := ?_) #[true, true, true, true, true, true, true, true, true, true, true, true, true, true, false, false, false, false, false, false, false, false, false, false, false, false, false, false, false, false, false, false] rfl rfl (any_of HT_.out (by kernel_rfl)) (fun _ _ _ h => h) (Or.inr ⟨by rfl, rfl⟩) ?_ ?_
              rotate_left
              ·simp only [Act.put, sT, s0, s1, i64_w, i32_w]
               rfl
              refine pure_ (i := 14) (N := some 119) (v := undef) (a' := ?_) #[true, true, true, true, true, true, true, true, true, true, true, true, true, true, true, false, false, false, false, false, false, false, false, false, false, false, false, false, false, false, false, false] rfl rfl (any_of HT_.out (by kernel_rfl)) (fun _ _ _ h => h) (Or.inr ⟨by rfl, rfl⟩) ?_ ?_
              rotate_left
              ·simp only [Act.put, sT, s0, s1, i64_w, i32_w]
               rfl
              refine pure_ (i := 15) (N := some 120) (v := undef) (a' := ?_) #[true, true, true, true, true, true, true, true, true, true, true, true, true, true, true, true, false, false, false, false, false, false, false, false, false, false, false, false, false, false, false, false] rfl rfl (any_of HT_.out (by kernel_rfl)) (fun _ _ _ h => h) (Or.inr ⟨by rfl, rfl⟩) ?_ ?_
              rotate_left
              ·simp only [Act.put, sT, s0, s1, i64_w, i32_w]
               rfl
              refine pure_ (i := 16) (N := some 121) (v := ?_) (a' := ?_) #[true, true, true, true, true, true, true, true, true, true, true, true, true, true, true, true, true, false, false, false, false, false, false, false, false, false, false, false, false, false, false, false] rfl rfl (any_of HT_.out (by kernel_rfl)) (fun _ _ _ h => h) (Or.inl ⟨by rfl, ?_⟩) ?_ ?_
              rotate_left
              ·intro w'
               go_simp
               with_reducible rfl
              rotate_left
              ·simp only [Act.put, sT, s0, s1, i64_w, i32_w]
               rfl
              refine pure_ (i := 17) (N := some 122) (v := ?_) (a' := ?_) #[true, true, true, true, true, true, true, true, true, true, true, true, true, true, true, true, true, true, false, false, false, false, false, false, false, false, false, false, false, false, false, false] rfl rfl (any_of HT_.out (by kernel_rfl)) (fun _ _ _ h => h) (Or.inl ⟨by rfl, ?_⟩) ?_ ?_
              rotate_left
              ·intro w'
               go_simp
               with_reducible rfl
              rotate_left
              ·simp only [Act.put, sT, s0, s1, i64_w, i32_w]
               rfl
              refine pure_ (i := 18) (N := some 123) (v := undef) (a' := ?_) #[true, true, true, true, true, true, true, true, true, true, true, true, true, true, true, true, true, true, true, false, false, false, false, false, false, false, false, false, false, false, false, false] rfl rfl (any_of HT_.out (by kernel_rfl)) (fun _ _ _ h => h) (Or.inr ⟨by rfl, rfl⟩) ?_ ?_
              rotate_left
              ·simp only [Act.put, sT, s0, s1, i64_w, i32_w]
               rfl
              refine pure_ (i := 19) (N := some 124) (v := undef) (a' := ?_) #[true, true, true, true, true, true, true, true, true, true, true, true, true, true, true, true, true, true, true, true, false, false, false, false, false, false, false, false, false, false, false, false] rfl rfl (any_of HT_.out (by kernel_rfl)) (fun _ _ _ h => h) (Or.inr ⟨by rfl, rfl⟩) ?_ ?_
              rotate_left
              ·simp only [Act.put, sT, s0, s1, i64_w, i32_w]
               rfl
              refine pure_ (i := 20) (N := some 125) (v := undef) (a' := ?_) #[true, true, true, true, true, true, true, true, true, true, true, true, true, true, true, true, true, true, true, true, true, false, false, false, false, false, false, false, false, false, false, false] rfl rfl (any_of HT_.out (by kernel_rfl)) (fun _ _ _ h => h) (Or.inr ⟨by rfl, rfl⟩) ?_ ?_
              rotate_left
              ·simp only [Act.put, sT, s0, s1, i64_w, i32_w]
               rfl
              refine pure_ (i := 21) (N := some 126) (v := undef) (a' := ?_) #[true, true, true, true, true, true, true, true, true, true, true, true, true, true, true, true, true, true, true, true, true, true, false, false, false, false, false, false, false, false, false, false] rfl rfl (any_of HT_.out (by kernel_rfl)) (fun _ _ _ h => h) (Or.inr ⟨by rfl, rfl⟩) ?_ ?_
              rotate_left
              ·simp only [Act.put, sT, s0, s1, i64_w, i32_w]
               rfl
              refine pure_ (i := 22) (N := some 127) (v := undef) (a' := ?_) #[true, true, true, true, true, true, true, true, true, true, true, true, true, true, true, true, true, true, true, true, true, true, true, false, false, false, false, false, false, false, false, false] rfl rfl (any_of HT_.out (by kernel_rfl)) (fun _ _ _ h => h) (Or.inr ⟨by rfl, rfl⟩) ?_ ?_
              rotate_left
              ·simp only [Act.put, sT, s0, s1, i64_w, i32_w]
               rfl
              refine pure_ (i := 23) (N := some 128) (v := undef) (a' := ?_) #[true, true, true, true, true, true, true, true, true, true, true, true, true, true, true, true, true, true, true, true, true, true, true, true, false, false, false, false, false, false, false, false] rfl rfl (any_of HT_.out (by kernel_rfl)) (fun _ _ _ h => h) (Or.inr ⟨by rfl, rfl⟩) ?_ ?_
              rotate_left
              ·simp only [Act.put, sT, s0, s1, i64_w, i32_w]
               rfl
              refine pure_ (i := 24) (N := some 129) (v := undef) (a' := ?_) #[true, true, true, true, true, true, true, true, true, true, true, true, true, true, true, true, true, true, true, true, true, true, true, true, true, false, false, false, false, false, false, false] rfl rfl (any_of HT_.out (by kernel_rfl)) (fun _ _ _ h => h) (Or.inr ⟨by rfl, rfl⟩) ?_ ?_
              rotate_left
              ·simp only [Act.put, sT, s0, s1, i64_w, i32_w]
               rfl
              refine pure_ (i := 25) (N := some 130) (v := undef) (a' := ?_) #[true, true, true, true, true, true, true, true, true, true, true, true, true, true, true, true, true, true, true, true, true, true, true, true, true, true, false, false, false, false, false, false] rfl rfl (any_of HT_.out (by kernel_rfl)) (fun _ _ _ h => h) (Or.inr ⟨by rfl, rfl⟩) ?_ ?_
              rotate_left
              ·simp only [Act.put, sT, s0, s1, i64_w, i32_w]
               rfl
              refine pure_ (i := 26) (N := some 131) (v := undef) (a' := ?_) #[true, true, true, true, true, true, true, true, true, true, true, true, true, true, true, true, true, true, true, true, true, true, true, true, true, true, true, false, false, false, false, false] rfl rfl (any_of HT_.out (by kernel_rfl)) (fun _ _ _ h => h) (Or.inr ⟨by rfl, rfl⟩) ?_ ?_
              rotate_left
              ·simp only [Act.put, sT, s0, s1, i64_w, i32_w]
               rfl
              refine pure_ (i := 27) (N := some 132) (v := undef) (a' := ?_) #[true, true, true, true, true, true, true, true, true, true, true, true, true, true, true, true, true, true, true, true, true, true, true, true, true, true, true, true, false, false, false, false] rfl rfl (any_of HT_.out (by kernel_rfl)) (fun _ _ _ h => h) (Or.inr ⟨by rfl, rfl⟩) ?_ ?_
              rotate_left
              ·simp only [Act.put, sT, s0, s1, i64_w, i32_w]
               rfl
              refine pure_ (i := 28) (N := some 133) (v := undef) (a' := ?_) #[true, true, true, true, true, true, true, true, true, true, true, true, true, true, true, true, true, true, true, true, true, true, true, true, true, true, true, true, true, false, false, false] rfl rfl (any_of HT_.out (by kernel_rfl)) (fun _ _ _ h => h) (Or.inr ⟨by rfl, rfl⟩) ?_ ?_
              rotate_left
              ·simp only [Act.put, sT, s0, s1, i64_w, i32_w]
               rfl
              refine pure_ (i := 29) (N := some 134) (v := undef) (a' := ?_) #[true, true, true, true, true, true, true, true, true, true, true, true, true, true, true, true, true, true, true, true, true, true, true, true, true, true, true, true, true, true, false, false] rfl rfl (any_of HT_.out (by kernel_rfl)) (fun _ _ _ h => h) (Or.inr ⟨by rfl, rfl⟩) ?_ ?_
              rotate_left
              ·simp only [Act.put, sT, s0, s1, i64_w, i32_w]
               rfl
              refine pure_ (i := 30) (N := some 135) (v := undef) (a' := ?_) #[true, true, true, true, true, true, true, true, true, true, true, true, true, true, true, true, true, true, true, true, true, true, true, true, true, true, true, true, true, true, true, false] rfl rfl (any_of HT_.out (by kernel_rfl)) (fun _ _ _ h => h) (Or.inr ⟨by rfl, rfl⟩) ?_ ?_
              rotate_left
              ·simp only [Act.put, sT, s0, s1, i64_w, i32_w]
               rfl
              refine pure_ (i := 31) (N := some 136) (v := ?_) (a' := ?_) #[true, true, true, true, true, true, true, true, true, true, true, true, true, true, true, true, true, true, true, true, true, true, true, true, true, true, true, true, true, true, true, true] rfl rfl (any_of HT_.out (by kernel_rfl)) (fun _ _ _ h => h) (Or.inl ⟨by rfl, ?_⟩) ?_ ?_
              rotate_left
              ·intro w'
               go_simp
               with_reducible rfl
              rotate_left
              ·simp only [Act.put, sT, s0, s1, i64_w, i32_w]
               rfl
              refine done_ (done_of HT_.out (by kernel_rfl)) ?_
              try go_wp2
              go_meet_ [c42b0]
              case rel => exact ⟨_, (true), (by first | rfl | (simp; done) | (simp [*]; done)), H', ⟨by have := HJ1.out; have := HK2.out; have := HK3.out; first | omega | exact Nat.le_refl _⟩, ⟨zB BK174.out⟩, ⟨by repeat (first | (with_reducible first | exact HB.out | apply pA | apply pN | apply pD | refine pS ?_ GE174.out) | exact HB.out)⟩⟩
             ·rw [if_neg c42] at H
              have c42b0 : decide (t183 < 0) = false := decide_eq_false c42
              clear c42
              (first | rw [c42b0] | (simp only [i64_w, i32_w]; rw [c42b0]) | skip)
              by_cases c44 : 0 ≤ t183
              ·rw [if_pos c44] at H
               have c44b0 : decide (0 ≤ t183) = true := decide_eq_true c44
               clear c44
               by_cases c45 : t183 < (l0_2.length : Int)
               ·rw [if_pos c45] at H
                have c45b0 : decide (t183 < (l0_2.length : Int)) = true := decide_eq_true c45
                clear c45
                by_cases c46 : ((rd_T72 l0_2 t183).f2) = ((rd_T76 l0_1 x8_3).f4)
                ·rw [if_pos c46] at H
                 have c46b0 : (((rd_T72 l0_2 t183).f2) == ((rd_T76 l0_1 x8_3).f4)) = true := beq_iff_eq.mpr c46
                 have c46b1 : (((rd_T72 l0_2 t183).f2) != ((rd_T76 l0_1 x8_3).f4)) = false := bne_eq_false_iff_eq.mpr c46
                 clear c46
                 have H' := Aside0.mk H
                 clear H
                 try go_wp2
                 have n0_ := Aside0.mk (qD BK174.out)
                 have n1_ := Aside0.mk (pD HB.out)
                 clear BK174
                 clear HB
                 have BK174 := n0_
                 have HB := n1_
                 clear n0_ n1_
                 have p184 : 0 ≤ (t183 : Int) := of_decide_eq_true (by first | (with_reducible assumption) | assumption)
                 have q184 : t183 < (l0_2.length : Int) := of_decide_eq_true (by first | (with_reducible assumption) | assumption)
                 obtain ⟨ad184, e184, hx184_0, hx184_1, hx184_2, hx184_3, hx184_4⟩ := at_T72 HR0_2.out t183 p184 q184
                 have hw184_4 := hx184_4
                 have hw184_3 := hx184_3
                 have hw184_2 := hx184_2
                 have hw184_1 := hx184_1
                 have hw184_0 := hx184_0
                 cases e184
                 replace hx184_0 := (HB.out.cell (World.block_lt_of_cell? w _ hx184_0)).trans hx184_0
                 replace hx184_1 := (HB.out.cell (World.block_lt_of_cell? w _ hx184_1)).trans hx184_1
                 replace hx184_2 := (HB.out.cell (World.block_lt_of_cell? w _ hx184_2)).trans hx184_2
                 replace hx184_3 := (HB.out.cell (World.block_lt_of_cell? w _ hx184_3)).trans hx184_3
                 replace hx184_4 := (HB.out.cell (World.block_lt_of_cell? w _ hx184_4)).trans hx184_4
                 replace p184 := eq_true p184
                 replace q184 := eq_true q184
                 have p185 : 0 ≤ (x8_3 : Int) := of_decide_eq_true (by first | (with_reducible assumption) | assumption)
                 have q185 : x8_3 < (l0_1.length : Int) := of_decide_eq_true (by first | (with_reducible assumption) | assumption)
                 obtain ⟨ad185, e185, hx185_0, hx185_1, hx185_2, hx185_3, hx185_4, hx185_5⟩ := at_T76 HR0_1.out x8_3 p185 q185
                 have hw185_5 := hx185_5
                 have hw185_4 := hx185_4
                 have hw185_3 := hx185_3
                 have hw185_2 := hx185_2
                 have hw185_1 := hx185_1
                 have hw185_0 := hx185_0
                 obtain rfl : ad182 = ad185 := (by injection e185)
                 replace hx185_0 := (HB.out.cell (World.block_lt_of_cell? w _ hx185_0)).trans hx185_0
                 replace hx185_1 := (HB.out.cell (World.block_lt_of_cell? w _ hx185_1)).trans hx185_1
                 replace hx185_2 := (HB.out.cell (World.block_lt_of_cell? w _ hx185_2)).trans hx185_2
                 replace hx185_3 := (HB.out.cell (World.block_lt_of_cell? w _ hx185_3)).trans hx185_3
                 replace hx185_4 := (HB.out.cell (World.block_lt_of_cell? w _ hx185_4)).trans hx185_4
                 replace hx185_5 := (HB.out.cell (World.block_lt_of_cell? w _ hx185_5)).trans hx185_5
                 replace p185 := eq_true p185
                 replace q185 := eq_true q185
                 have p186 : 0 ≤ (t183 : Int) := of_decide_eq_true (by first | (with_reducible assumption) | assumption)
                 have q186 : t183 < (l0_2.length : Int) := of_decide_eq_true (by first | (with_reducible assumption) | assumption)
                 obtain ⟨ad186, e186, hx186_0, hx186_1, hx186_2, hx186_3, hx186_4⟩ := at_T72 HR0_2.out t183 p186 q186
                 have hw186_4 := hx186_4
                 have hw186_3 := hx186_3
                 have hw186_2 := hx186_2
                 have hw186_1 := hx186_1
                 have hw186_0 := hx186_0
                 obtain rfl : ad184 = ad186 := (by injection e186)
                 replace hx186_0 := (HB.out.cell (World.block_lt_of_cell? w _ hx186_0)).trans hx186_0
                 replace hx186_1 := (HB.out.cell (World.block_lt_of_cell? w _ hx186_1)).trans hx186_1
                 replace hx186_2 := (HB.out.cell (World.block_lt_of_cell? w _ hx186_2)).trans hx186_2
                 replace hx186_3 := (HB.out.cell (World.block_lt_of_cell? w _ hx186_3)).trans hx186_3
                 replace hx186_4 := (HB.out.cell (World.block_lt_of_cell? w _ hx186_4)).trans hx186_4
                 replace p186 := eq_true p186
                 replace q186 := eq_true q186
                 have p187 : 0 ≤ (x8_3 : Int) := of_decide_eq_true (by first | (with_reducible assumption) | assumption)
                 have q187 : x8_3 < (l0_1.length : Int) := of_decide_eq_true (by first | (with_reducible assumption) | assumption)
                 obtain ⟨ad187, e187, hx187_0, hx187_1, hx187_2, hx187_3, hx187_4, hx187_5⟩ := at_T76 HR0_1.out x8_3 p187 q187
                 have hw187_5 := hx187_5
                 have hw187_4 := hx187_4
                 have hw187_3 := hx187_3
                 have hw187_2 := hx187_2
                 have hw187_1 := hx187_1
                 have hw187_0 := hx187_0
                 obtain rfl : ad182 = ad187 := (by injection e187)
                 replace hx187_0 := (HB.out.cell (World.block_lt_of_cell? w _ hx187_0)).trans hx187_0
                 replace hx187_1 := (HB.out.cell (World.block_lt_of_cell? w _ hx187_1)).trans hx187_1
                 replace hx187_2 := (HB.out.cell (World.block_lt_of_cell? w _ hx187_2)).trans hx187_2
                 replace hx187_3 := (HB.out.cell (World.block_lt_of_cell? w _ hx187_3)).trans hx187_3
                 replace hx187_4 := (HB.out.cell (World.block_lt_of_cell? w _ hx187_4)).trans hx187_4
                 replace hx187_5 := (HB.out.cell (World.block_lt_of_cell? w _ hx187_5)).trans hx187_5
                 replace p187 := eq_true p187
                 replace q187 := eq_true q187
                 refine start_ (n := 32) (S := fun w' => w'.cell? ⟨gb174, 0, none⟩ = some (.int .i64 a0_0) ∧ w'.cell? ⟨gb174, 1, none⟩ = some (.slice (some ad182) l0_1.length c0_1) ∧ w'.cell? ⟨gb174, 2, none⟩ = some (.slice (some ad184) l0_2.length c0_2) ∧ w'.cell? ⟨gb174, 3, none⟩ = some (.slice A0_3 l0_3.length c0_3) ∧ w'.cell? (ad184.add ((t183).toNat * 5)) = some (.int .i64 ((rd_T72 l0_2 t183).f0)) ∧ w'.cell? ⟨(ad184.add ((t183).toNat * 5)).block, (ad184.add ((t183).toNat * 5)).off + 1, none⟩ = some (.int .i64 ((rd_T72 l0_2 t183).f1)) ∧ w'.cell? ⟨(ad184.add ((t183).toNat * 5)).block, (ad184.add ((t183).toNat * 5)).off + 2, none⟩ = some (.int .u64 ((rd_T72 l0_2 t183).f2)) ∧ w'.cell? ⟨(ad184.add ((t183).toNat * 5)).block, (ad184.add ((t183).toNat * 5)).off + 3, none⟩ = some (.int .u64 ((rd_T72 l0_2 t183).f3)) ∧ w'.cell? ⟨(ad184.add ((t183).toNat * 5)).block, (ad184.add ((t183).toNat * 5)).off + 4, none⟩ = some (.int .i64 ((rd_T72 l0_2 t183).f4)) ∧ w'.cell? (ad182.add ((x8_3).toNat * 6)) = some (.int .i64 ((rd_T76 l0_1 x8_3).f0)) ∧ w'.cell? ⟨(ad182.add ((x8_3).toNat * 6)).block, (ad182.add ((x8_3).toNat * 6)).off + 1, none⟩ = some (.int .i64 ((rd_T76 l0_1 x8_3).f1)) ∧ w'.cell? ⟨(ad182.add ((x8_3).toNat * 6)).block, (ad182.add ((x8_3).toNat * 6)).off + 2, none⟩ = some (.int .u32 ((rd_T76 l0_1 x8_3).f2)) ∧ w'.cell? ⟨(ad182.add ((x8_3).toNat * 6)).block, (ad182.add ((x8_3).toNat * 6)).off + 3, none⟩ = some (.string ((rd_T76 l0_1 x8_3).f3)) ∧ w'.cell? ⟨(ad182.add ((x8_3).toNat * 6)).block, (ad182.add ((x8_3).toNat * 6)).off + 4, none⟩ = some (.int .u64 ((rd_T76 l0_1 x8_3).f4)) ∧ w'.cell? ⟨(ad182.add ((x8_3).toNat * 6)).block, (ad182.add ((x8_3).toNat * 6)).off + 5, none⟩ = some (.int .u64 ((rd_T76 l0_1 x8_3).f5)) ∧ w'.cell? (ad184.add ((t183).toNat * 5)) = some (.int .i64 ((rd_T72 l0_2 t183).f0)) ∧ w'.cell? ⟨(ad184.add ((t183).toNat * 5)).block, (ad184.add ((t183).toNat * 5)).off + 1, none⟩ = some (.int .i64 ((rd_T72 l0_2 t183).f1)) ∧ w'.cell? ⟨(ad184.add ((t183).toNat * 5)).block, (ad184.add ((t183).toNat * 5)).off + 2, none⟩ = some (.int .u64 ((rd_T72 l0_2 t183).f2)) ∧ w'.cell? ⟨(ad184.add ((t183).toNat * 5)).block, (ad184.add ((t183).toNat * 5)).off + 3, none⟩ = some (.int .u64 ((rd_T72 l0_2 t183).f3)) ∧ w'.cell? ⟨(ad184.add ((t183).toNat * 5)).block, (ad184.add ((t183).toNat * 5)).off + 4, none⟩ = some (.int .i64 ((rd_T72 l0_2 t183).f4)) ∧ w'.cell? (ad182.add ((x8_3).toNat * 6)) = some (.int .i64 ((rd_T76 l0_1 x8_3).f0)) ∧ w'.cell? ⟨(ad182.add ((x8_3).toNat * 6)).block, (ad182.add ((x8_3).toNat * 6)).off + 1, none⟩ = some (.int .i64 ((rd_T76 l0_1 x8_3).f1)) ∧ w'.cell? ⟨(ad182.add ((x8_3).toNat * 6)).block, (ad182.add ((x8_3).toNat * 6)).off + 2, none⟩ = some (.int .u32 ((rd_T76 l0_1 x8_3).f2)) ∧ w'.cell? ⟨(ad182.add ((x8_3).toNat * 6)).block, (ad182.add ((x8_3).toNat * 6)).off + 3, none⟩ = some (.string ((rd_T76 l0_1 x8_3).f3)) ∧ w'.cell? ⟨(ad182.add ((x8_3).toNat * 6)).block, (ad182.add ((x8_3).toNat * 6)).off + 4, none⟩ = some (.int .u64 ((rd_T76 l0_1 x8_3).f4)) ∧ w'.cell? ⟨(ad182.add ((x8_3).toNat * 6)).block, (ad182.add ((x8_3).toNat * 6)).off + 5, none⟩ = some (.int .u64 ((rd_T76 l0_1 x8_3).f5))) (ds := []) #[false, false, false, false, false, false, false, false, false, false, false, false, false, false, false, false, false, false, false, false, false, false, false, false, false, false, false, false, false, false, false, false] (by kernel_rfl) rfl rfl ⟨(blk_cell BK174.out 0).trans rfl, (blk_cell BK174.out 1).trans rfl, (blk_cell BK174.out 2).trans rfl, (blk_cell BK174.out 3).trans rfl, ((HB.out.cell (World.block_lt_of_cell? w _ hw184_0)).trans hw184_0), ((HB.out.cell (World.block_lt_of_cell? w _ hw184_1)).trans hw184_1), ((HB.out.cell (World.block_lt_of_cell? w _ hw184_2)).trans hw184_2), ((HB.out.cell (World.block_lt_of_cell? w _ hw184_3)).trans hw184_3), ((HB.out.cell (World.block_lt_of_cell? w _ hw184_4)).trans hw184_4), ((HB.out.cell (World.block_lt_of_cell? w _ hw185_0)).trans hw185_0), ((HB.out.cell (World.block_lt_of_cell? w _ hw185_1)).trans hw185_1), ((HB.out.cell (World.block_lt_of_cell? w _ hw185_2)).trans hw185_2), ((HB.out.cell (World.block_lt_of_cell? w _ hw185_3)).trans hw185_3), ((HB.out.cell (World.block_lt_of_cell? w _ hw185_4)).trans hw185_4), ((HB.out.cell (World.block_lt_of_cell? w _ hw185_5)).trans hw185_5), ((HB.out.cell (World.block_lt_of_cell? w _ hw186_0)).trans hw186_0), ((HB.out.cell (World.block_lt_of_cell? w _ hw186_1)).trans hw186_1), ((HB.out.cell (World.block_lt_of_cell? w _ hw186_2)).trans hw186_2), ((HB.out.cell (World.block_lt_of_cell? w _ hw186_3)).trans hw186_3), ((HB.out.cell (World.block_lt_of_cell? w _ hw186_4)).trans hw186_4), ((HB.out.cell (World.block_lt_of_cell? w _ hw187_0)).trans hw187_0), ((HB.out.cell (World.block_lt_of_cell? w _ hw187_1)).trans hw187_1), ((HB.out.cell (World.block_lt_of_cell? w _ hw187_2)).trans hw187_2), ((HB.out.cell (World.block_lt_of_cell? w _ hw187_3)).trans hw187_3), ((HB.out.cell (World.block_lt_of_cell? w _ hw187_4)).trans hw187_4), ((HB.out.cell (World.block_lt_of_cell? w _ hw187_5)).trans hw187_5)⟩ (fun hHeld => ?_); refine with_tabW portreeveref04_Right.tab20 portreeveref04_Right.bits20 (fun HT_ HW_ => ?_)
                 generalize w41.drew = w47 at BK174 HB hx184_0 hx184_1 hx184_2 hx184_3 hx184_4 hx185_0 hx185_1 hx185_2 hx185_3 hx185_4 hx185_5 hx186_0 hx186_1 hx186_2 hx186_3 hx186_4 hx187_0 hx187_1 hx187_2 hx187_3 hx187_4 hx187_5 hHeld ⊢
                 refine pure_ (i := 0) (N := some 105) (v := ?_) (a' := ?_) #[true, false, false, false, false, false, false, false, false, false, false, false, false, false, false, false, false, false, false, false, false, false, false, false, false, false, false, false, false, false, false, false] rfl rfl (any_of HT_.out (by kernel_rfl)) (fun _ _ _ h => h) (Or.inl ⟨by rfl, ?_⟩) ?_ ?_
                 rotate_left
                 ·intro w'
                  go_simp
                  with_reducible rfl
                 rotate_left
                 ·simp only [Act.put, sT, s0, s1, i64_w, i32_w]
                  rfl
                 refine pure_ (i := 1) (N := some 106) (v := ?_) (a' := ?_) #[true, true, false, false, false, false, false, false, false, false, false, false, false, false, false, false, false, false, false, false, false, false, false, false, false, false, false, false, false, false, false, false] rfl rfl (any_of HT_.out (by kernel_rfl)) (fun _ _ _ h => h) (Or.inl ⟨by rfl, ?_⟩) ?_ ?_
                 rotate_left
                 ·intro w'
                  go_simp
                  with_reducible rfl
                 rotate_left
                 ·simp only [Act.put, sT, s0, s1, i64_w, i32_w]
                  rfl
                 refine pure_ (i := 2) (N := some 107) (v := ?_) (a' := ?_) #[true, true, true, false, false, false, false, false, false, false, false, false, false, false, false, false, false, false, false, false, false, false, false, false, false, false, false, false, false, false, false, false] rfl rfl (any_of HT_.out (by kernel_rfl)) (fun _ _ _ h => h) (Or.inl ⟨by rfl, ?_⟩) ?_ ?_
                 rotate_left
                 ·intro w'
                  go_simp
                  with_reducible rfl
                 rotate_left
                 ·simp only [Act.put, sT, s0, s1, i64_w, i32_w]
                  rfl
                 refine pure_ (i := 3) (N := some 108) (v := ?_) (a' := ?_) #[true, true, true, true, false, false, false, false, false, false, false, false, false, false, false, false, false, false, false, false, false, false, false, false, false, false, false, false, false, false, false, false] rfl rfl (any_of HT_.out (by kernel_rfl)) (fun _ _ _ h => h) (Or.inl ⟨by rfl, ?_⟩) ?_ ?_
                 rotate_left
                 ·intro w'
                  go_simp
                  with_reducible rfl
                 rotate_left
                 ·simp only [Act.put, sT, s0, s1, i64_w, i32_w]
                  rfl
                 refine pure_ (i := 5) (N := some 110) (v := ?_) (a' := ?_) #[true, true, true, true, false, true, false, false, false, false, false, false, false, false, false, false, false, false, false, false, false, false, false, false, false, false, false, false, false, false, false, false] rfl rfl (any_of HT_.out (by kernel_rfl)) (fun _ _ _ h => h) (Or.inl ⟨by rfl, ?_⟩) ?_ ?_
                 rotate_left
                 ·intro w'
                  go_simp
                  with_reducible rfl
                 rotate_left
                 ·simp only [Act.put, sT, s0, s1, i64_w, i32_w]
                  rfl
                 refine pure_ (i := 9) (N := some 114) (v := ?_) (a' := ?_) #[true, true, true, true, false, true, false, false, false, true, false, false, false, false, false, false, false, false, false, false, false, false, false, false, false, false, false, false, false, false, false, false] rfl rfl (any_of HT_.out (by kernel_rfl)) (fun _ _ _ h => h) (Or.inl ⟨by rfl, ?_⟩) ?_ ?_
                 rotate_left
                 ·intro w'
                  go_simp
                  with_reducible rfl
                 rotate_left
                 ·simp only [Act.put, sT, s0, s1, i64_w, i32_w]
                  rfl
                 refine pure_ (i := 11) (N := some 116) (v := ?_) (a' := ?_) #[true, true, true, true, false, true, false, false, false, true, false, true, false, false, false, false, false, false, false, false, false, false, false, false, false, false, false, false, false, false, false, false] rfl rfl (any_of HT_.out (by kernel_rfl)) (fun _ _ _ h => h) (Or.inl ⟨by rfl, ?_⟩) ?_ ?_
                 rotate_left
                 ·intro w'
                  go_simp
                  with_reducible rfl
                 rotate_left
                 ·simp only [Act.put, sT, s0, s1, i64_w, i32_w]
                  rfl
                 refine take_ (i := 4) (N := some 109) (v := ?_) (a' := ?_) #[true, true, true, true, true, true, false, false, false, true, false, true, false, false, false, false, false, false, false, false, false, false, false, false, false, false, false, false, false, false, false, false] rfl rfl (take_ofW HT_.out HW_.out (by kernel_rfl)) (fun _ _ _ h => h) (Or.inl ⟨by rfl, ?_⟩) hHeld ?_ ?_
                 rotate_left
                 ·rintro w' ⟨s0, s1, s2, s3, s4, s5, s6, s7, s8, s9, s10, s11, s12, s13, s14, s15, s16, s17, s18, s19, s20, s21, s22, s23, s24, s25⟩
                  go_simp
                  with_reducible rfl
                 rotate_left
                 ·simp only [Act.put, sT, s0, s1, i64_w, i32_w]
                  rfl
                 refine pure_ (i := 6) (N := some 111) (v := ?_) (a' := ?_) #[true, true, true, true, true, true, true, false, false, true, false, true, false, false, false, false, false, false, false, false, false, false, false, false, false, false, false, false, false, false, false, false] rfl rfl (any_of HT_.out (by kernel_rfl)) (fun _ _ _ h => h) (Or.inl ⟨by rfl, ?_⟩) ?_ ?_
                 rotate_left
                 ·intro w'
                  go_simp
                  with_reducible rfl
                 rotate_left
                 ·simp only [Act.put, sT, s0, s1, i64_w, i32_w]
                  rfl
                 refine pure_ (i := 7) (N := some 112) (v := ?_) (a' := ?_) #[true, true, true, true, true, true, true, true, false, true, false, true, false, false, false, false, false, false, false, false, false, false, false, false, false, false, false, false, false, false, false, false] rfl rfl (any_of HT_.out (by kernel_rfl)) (fun _ _ _ h => h) (Or.inl ⟨by rfl, ?_⟩) ?_ ?_
                 rotate_left
                 ·intro w'
                  go_simp
                  with_reducible rfl
                 rotate_left
                 ·simp only [Act.put, sT, s0, s1, i64_w, i32_w]
                  rfl
                 refine take_ (i := 8) (N := some 113) (v := ?_) (a' := ?_) #[true, true, true, true, true, true, true, true, true, true, false, true, false, false, false, false, false, false, false, false, false, false, false, false, false, false, false, false, false, false, false, false] rfl rfl (take_ofW HT_.out HW_.out (by kernel_rfl)) (fun _ _ _ h => h) (Or.inl ⟨by rfl, ?_⟩) hHeld ?_ ?_
                 rotate_left
                 ·rintro w' ⟨s0, s1, s2, s3, s4, s5, s6, s7, s8, s9, s10, s11, s12, s13, s14, s15, s16, s17, s18, s19, s20, s21, s22, s23, s24, s25⟩
                  go_simp
                  with_reducible rfl
                 rotate_left
                 ·simp only [Act.put, sT, s0, s1, i64_w, i32_w]
                  rfl
                 refine take_ (i := 10) (N := some 115) (v := ?_) (a' := ?_) #[true, true, true, true, true, true, true, true, true, true, true, true, false, false, false, false, false, false, false, false, false, false, false, false, false, false, false, false, false, false, false, false] rfl rfl (take_ofW HT_.out HW_.out (by kernel_rfl)) (fun _ _ _ h => h) (Or.inl ⟨by rfl, ?_⟩) hHeld ?_ ?_
                 rotate_left
                 ·rintro w' ⟨s0, s1, s2, s3, s4, s5, s6, s7, s8, s9, s10, s11, s12, s13, s14, s15, s16, s17, s18, s19, s20, s21, s22, s23, s24, s25⟩
                  go_simp
                  with_reducible rfl
                 rotate_left
                 ·simp only [Act.put, sT, s0, s1, i64_w, i32_w]
                  rfl
                 refine pure_ (i := 12) (N := some 117) (v := ?_) (a' := ?_) #[true, true, true, true, true, true, true, true, true, true, true, true, true, false, false, false, false, false, false, false, false, false, false, false, false, false, false, false, false, false, false, false] rfl rfl (any_of HT_.out (by kernel_rfl)) (fun _ _ _ h => h) (Or.inl ⟨by rfl, ?_⟩) ?_ ?_
                 rotate_left
                 ·intro w'
                  go_simp
                  with_reducible rfl
                 rotate_left
                 ·simp only [Act.put, sT, s0, s1, i64_w, i32_w]
                  rfl
                 refine pure_ (i := 13) (N := some 118) (v := ?_) (a' := ?_) #[true, true, true, true, true, true, true, true, true, true, true, true, true, true, false, false, false, false, false, false, false, false, false, false, false, false, false, false, false, false, false, false] rfl rfl (any_of HT_.out (by kernel_rfl)) (fun _ _ _ h => h) (Or.inl ⟨by rfl, ?_⟩) ?_ ?_
                 rotate_left
                 ·intro w'
                  go_simp
                  with_reducible rfl
                 rotate_left
                 ·simp only [Act.put, sT, s0, s1, i64_w, i32_w]
                  rfl
                 refine take_ (i := 14) (N := some 119) (v := ?_) (a' := ?_) #[true, true, true, true, true, true, true, true, true, true, true, true, true, true, true, false, false, false, false, false, false, false, false, false, false, false, false, false, false, false, false, false] rfl rfl (take_ofW HT_.out HW_.out (by kernel_rfl)) (fun _ _ _ h => h) (Or.inl ⟨by rfl, ?_⟩) hHeld ?_ ?_
                 rotate_left
                 ·rintro w' ⟨s0, s1, s2, s3, s4, s5, s6, s7, s8, s9, s10, s11, s12, s13, s14, s15, s16, s17, s18, s19, s20, s21, s22, s23, s24, s25⟩
                  go_simp
                  with_reducible rfl
                 rotate_left
                 ·simp only [Act.put, sT, s0, s1, i64_w, i32_w]
                  rfl
                 refine pure_ (i := 15) (N := some 120) (v := ?_) (a' := ?_) #[true, true, true, true, true, true, true, true, true, true, true, true, true, true, true, true, false, false, false, false, false, false, false, false, false, false, false, false, false, false, false, false] rfl rfl (any_of HT_.out (by kernel_rfl)) (fun _ _ _ h => h) (Or.inl ⟨by rfl, ?_⟩) ?_ ?_
                 rotate_left
                 ·intro w'
                  go_simp
                  with_reducible rfl
                 rotate_left
                 ·simp only [Act.put, sT, s0, s1, i64_w, i32_w]
                  rfl
                 refine pure_ (i := 16) (N := some 121) (v := ?_) (a' := ?_) #[true, true, true, true, true, true, true, true, true, true, true, true, true, true, true, true, true, false, false, false, false, false, false, false, false, false, false, false, false, false, false, false] rfl rfl (any_of HT_.out (by kernel_rfl)) (fun _ _ _ h => h) (Or.inl ⟨by rfl, ?_⟩) ?_ ?_
                 rotate_left
                 ·intro w'
                  go_simp
                  with_reducible rfl
                 rotate_left
                 ·simp only [Act.put, sT, s0, s1, i64_w, i32_w]
                  rfl
                 refine pure_ (i := 17) (N := some 122) (v := ?_) (a' := ?_) #[true, true, true, true, true, true, true, true, true, true, true, true, true, true, true, true, true, true, false, false, false, false, false, false, false, false, false, false, false, false, false, false] rfl rfl (any_of HT_.out (by kernel_rfl)) (fun _ _ _ h => h) (Or.inl ⟨by rfl, ?_⟩) ?_ ?_
                 rotate_left
                 ·intro w'
                  go_simp
                  with_reducible rfl
                 rotate_left
                 ·simp only [Act.put, sT, s0, s1, i64_w, i32_w]
                  rfl
                 refine pure_ (i := 18) (N := some 123) (v := ?_) (a' := ?_) #[true, true, true, true, true, true, true, true, true, true, true, true, true, true, true, true, true, true, true, false, false, false, false, false, false, false, false, false, false, false, false, false] rfl rfl (any_of HT_.out (by kernel_rfl)) (fun _ _ _ h => h) (Or.inl ⟨by rfl, ?_⟩) ?_ ?_
                 rotate_left
                 ·intro w'
                  go_simp
                  with_reducible rfl
                 rotate_left
                 ·simp only [Act.put, sT, s0, s1, i64_w, i32_w]
                  rfl
                 refine pure_ (i := 20) (N := some 125) (v := ?_) (a' := ?_) #[true, true, true, true, true, true, true, true, true, true, true, true, true, true, true, true, true, true, true, false, true, false, false, false, false, false, false, false, false, false, false, false] rfl rfl (any_of HT_.out (by kernel_rfl)) (fun _ _ _ h => h) (Or.inl ⟨by rfl, ?_⟩) ?_ ?_
                 rotate_left
                 ·intro w'
                  go_simp
                  with_reducible rfl
                 rotate_left
                 ·simp only [Act.put, sT, s0, s1, i64_w, i32_w]
                  rfl
                 refine pure_ (i := 24) (N := some 129) (v := ?_) (a' := ?_) #[true, true, true, true, true, true, true, true, true, true, true, true, true, true, true, true, true, true, true, false, true, false, false, false, true, false, false, false, false, false, false, false] rfl rfl (any_of HT_.out (by kernel_rfl)) (fun _ _ _ h => h) (Or.inl ⟨by rfl, ?_⟩) ?_ ?_
                 rotate_left
                 ·intro w'
                  go_simp
                  with_reducible rfl
                 rotate_left
                 ·simp only [Act.put, sT, s0, s1, i64_w, i32_w]
                  rfl
                 refine pure_ (i := 26) (N := some 131) (v := ?_) (a' := ?_) #[true, true, true, true, true, true, true, true, true, true, true, true, true, true, true, true, true, true, true, false, true, false, false, false, true, false, true, false, false, false, false, false] rfl rfl (any_of HT_.out (by kernel_rfl)) (fun _ _ _ h => h) (Or.inl ⟨by rfl, ?_⟩) ?_ ?_
                 rotate_left
                 ·intro w'
                  go_simp
                  with_reducible rfl
                 rotate_left
                 ·simp only [Act.put, sT, s0, s1, i64_w, i32_w]
                  rfl
                 refine take_ (i := 19) (N := some 124) (v := ?_) (a' := ?_) #[true, true, true, true, true, true, true, true, true, true, true, true, true, true, true, true, true, true, true, true, true, false, false, false, true, false, true, false, false, false, false, false] rfl rfl (take_ofW HT_.out HW_.out (by kernel_rfl)) (fun _ _ _ h => h) (Or.inl ⟨by rfl, ?_⟩) hHeld ?_ ?_
                 rotate_left
                 ·rintro w' ⟨s0, s1, s2, s3, s4, s5, s6, s7, s8, s9, s10, s11, s12, s13, s14, s15, s16, s17, s18, s19, s20, s21, s22, s23, s24, s25⟩
                  go_simp
                  with_reducible rfl
                 rotate_left
                 ·simp only [Act.put, sT, s0, s1, i64_w, i32_w]
                  rfl
                 refine pure_ (i := 21) (N := some 126) (v := ?_) (a' := ?_) #[true, true, true, true, true, true, true, true, true, true, true, true, true, true, true, true, true, true, true, true, true, true, false, false, true, false, true, false, false, false, false, false] rfl rfl (any_of HT_.out (by kernel_rfl)) (fun _ _ _ h => h) (Or.inl ⟨by rfl, ?_⟩) ?_ ?_
                 rotate_left
                 ·intro w'
                  go_simp
                  with_reducible rfl
                 rotate_left
                 ·simp only [Act.put, sT, s0, s1, i64_w, i32_w]
                  rfl
                 refine pure_ (i := 22) (N := some 127) (v := ?_) (a' := ?_) #[true, true, true, true, true, true, true, true, true, true, true, true, true, true, true, true, true, true, true, true, true, true, true, false, true, false, true, false, false, false, false, false] rfl rfl (any_of HT_.out (by kernel_rfl)) (fun _ _ _ h => h) (Or.inl ⟨by rfl, ?_⟩) ?_ ?_
                 rotate_left
                 ·intro w'
                  go_simp
                  with_reducible rfl
                 rotate_left
                 ·simp only [Act.put, sT, s0, s1, i64_w, i32_w]
                  rfl
                 refine take_ (i := 23) (N := some 128) (v := ?_) (a' := ?_) #[true, true, true, true, true, true, true, true, true, true, true, true, true, true, true, true, true, true, true, true, true, true, true, true, true, false, true, false, false, false, false, false] rfl rfl (take_ofW HT_.out HW_.out (by kernel_rfl)) (fun _ _ _ h => h) (Or.inl ⟨by rfl, ?_⟩) hHeld ?_ ?_
                 rotate_left
                 ·rintro w' ⟨s0, s1, s2, s3, s4, s5, s6, s7, s8, s9, s10, s11, s12, s13, s14, s15, s16, s17, s18, s19, s20, s21, s22, s23, s24, s25⟩
                  go_simp
                  with_reducible rfl
                 rotate_left
                 ·simp only [Act.put, sT, s0, s1, i64_w, i32_w]
                  rfl
                 refine take_ (i := 25) (N := some 130) (v := ?_) (a' := ?_) #[true, true, true, true, true, true, true, true, true, true, true, true, true, true, true, true, true, true, true, true, true, true, true, true, true, true, true, false, false, false, false, false] rfl rfl (take_ofW HT_.out HW_.out (by kernel_rfl)) (fun _ _ _ h => h) (Or.inl ⟨by rfl, ?_⟩) hHeld ?_ ?_
                 rotate_left
                 ·rintro w' ⟨s0, s1, s2, s3, s4, s5, s6, s7, s8, s9, s10, s11, s12, s13, s14, s15, s16, s17, s18, s19, s20, s21, s22, s23, s24, s25⟩
                  go_simp
                  with_reducible rfl
                 rotate_left
                 ·simp only [Act.put, sT, s0, s1, i64_w, i32_w]
                  rfl
                 refine pure_ (i := 27) (N := some 132) (v := ?_) (a' := ?_) #[true, true, true, true, true, true, true, true, true, true, true, true, true, true, true, true, true, true, true, true, true, true, true, true, true, true, true, true, false, false, false, false] rfl rfl (any_of HT_.out (by kernel_rfl)) (fun _ _ _ h => h) (Or.inl ⟨by rfl, ?_⟩) ?_ ?_
                 rotate_left
                 ·intro w'
                  go_simp
                  with_reducible rfl
                 rotate_left
                 ·simp only [Act.put, sT, s0, s1, i64_w, i32_w]
                  rfl
                 refine pure_ (i := 28) (N := some 133) (v := ?_) (a' := ?_) #[true, true, true, true, true, true, true, true, true, true, true, true, true, true, true, true, true, true, true, true, true, true, true, true, true, true, true, true, true, false, false, false] rfl rfl (any_of HT_.out (by kernel_rfl)) (fun _ _ _ h => h) (Or.inl ⟨by rfl, ?_⟩) ?_ ?_
                 rotate_left
                 ·intro w'
                  go_simp
                  with_reducible rfl
                 rotate_left
                 ·simp only [Act.put, sT, s0, s1, i64_w, i32_w]
                  rfl
                 refine take_ (i := 29) (N := some 134) (v := ?_) (a' := ?_) #[true, true, true, true, true, true, true, true, true, true, true, true, true, true, true, true, true, true, true, true, true, true, true, true, true, true, true, true, true, true, false, false] rfl rfl (take_ofW HT_.out HW_.out (by kernel_rfl)) (fun _ _ _ h => h) (Or.inl ⟨by rfl, ?_⟩) hHeld ?_ ?_
                 rotate_left
                 ·rintro w' ⟨s0, s1, s2, s3, s4, s5, s6, s7, s8, s9, s10, s11, s12, s13, s14, s15, s16, s17, s18, s19, s20, s21, s22, s23, s24, s25⟩
                  go_simp
                  with_reducible rfl
                 rotate_left
                 ·simp only [Act.put, sT, s0, s1, i64_w, i32_w]
                  rfl
                 refine pure_ (i := 30) (N := some 135) (v := ?_) (a' := ?_) #[true, true, true, true, true, true, true, true, true, true, true, true, true, true, true, true, true, true, true, true, true, true, true, true, true, true, true, true, true, true, true, false] rfl rfl (any_of HT_.out (by kernel_rfl)) (fun _ _ _ h => h) (Or.inl ⟨by rfl, ?_⟩) ?_ ?_
                 rotate_left
                 ·intro w'
                  go_simp
                  with_reducible rfl
                 rotate_left
                 ·simp only [Act.put, sT, s0, s1, i64_w, i32_w]
                  rfl
                 refine pure_ (i := 31) (N := some 136) (v := ?_) (a' := ?_) #[true, true, true, true, true, true, true, true, true, true, true, true, true, true, true, true, true, true, true, true, true, true, true, true, true, true, true, true, true, true, true, true] rfl rfl (any_of HT_.out (by kernel_rfl)) (fun _ _ _ h => h) (Or.inl ⟨by rfl, ?_⟩) ?_ ?_
                 rotate_left
                 ·intro w'
                  go_simp
                  with_reducible rfl
                 rotate_left
                 ·simp only [Act.put, sT, s0, s1, i64_w, i32_w]
                  rfl
                 refine done_ (done_of HT_.out (by kernel_rfl)) ?_
                 try go_wp2
                 go_meet_ [c42b0, c44b0, c45b0, c46b0]
                 case rel => exact ⟨_, ((((rd_T72 l0_2 t183).f3) != ((rd_T76 l0_1 x8_3).f5))), (by first | rfl | (simp; done) | (simp [*]; done)), H', ⟨by have := HJ1.out; have := HK2.out; have := HK3.out; first | omega | exact Nat.le_refl _⟩, ⟨zB BK174.out⟩, ⟨by repeat (first | (with_reducible first | exact HB.out | apply pA | apply pN | apply pD | refine pS ?_ GE174.out) | exact HB.out)⟩⟩
                ·rw [if_neg c46] at H
                 have c46b0 : (((rd_T72 l0_2 t183).f2) == ((rd_T76 l0_1 x8_3).f4)) = false := beq_eq_false_iff_ne.mpr c46
                 have c46b1 : (((rd_T72 l0_2 t183).f2) != ((rd_T76 l0_1 x8_3).f4)) = true := bne_iff_ne.mpr c46
                 have H' := Aside0.mk H
                 clear H
                 try go_wp2
                 have n0_ := Aside0.mk (qD BK174.out)
                 have n1_ := Aside0.mk (pD HB.out)
                 clear BK174
                 clear HB
                 have BK174 := n0_
                 have HB := n1_
                 clear n0_ n1_
                 have p184 : 0 ≤ (t183 : Int) := of_decide_eq_true (by first | (with_reducible assumption) | assumption)
                 have q184 : t183 < (l0_2.length : Int) := of_decide_eq_true (by first | (with_reducible assumption) | assumption)
                 obtain ⟨ad184, e184, hx184_0, hx184_1, hx184_2, hx184_3, hx184_4⟩ := at_T72 HR0_2.out t183 p184 q184
                 have hw184_4 := hx184_4
                 have hw184_3 := hx184_3
                 have hw184_2 := hx184_2
                 have hw184_1 := hx184_1
                 have hw184_0 := hx184_0
                 cases e184
                 replace hx184_0 := (HB.out.cell (World.block_lt_of_cell? w _ hx184_0)).trans hx184_0
                 replace hx184_1 := (HB.out.cell (World.block_lt_of_cell? w _ hx184_1)).trans hx184_1
                 replace hx184_2 := (HB.out.cell (World.block_lt_of_cell? w _ hx184_2)).trans hx184_2
                 replace hx184_3 := (HB.out.cell (World.block_lt_of_cell? w _ hx184_3)).trans hx184_3
                 replace hx184_4 := (HB.out.cell (World.block_lt_of_cell? w _ hx184_4)).trans hx184_4
                 replace p184 := eq_true p184
                 replace q184 := eq_true q184
                 have p185 : 0 ≤ (x8_3 : Int) := of_decide_eq_true (by first | (with_reducible assumption) | assumption)
                 have q185 : x8_3 < (l0_1.length : Int) := of_decide_eq_true (by first | (with_reducible assumption) | assumption)
                 obtain ⟨ad185, e185, hx185_0, hx185_1, hx185_2, hx185_3, hx185_4, hx185_5⟩ := at_T76 HR0_1.out x8_3 p185 q185
                 have hw185_5 := hx185_5
                 have hw185_4 := hx185_4
                 have hw185_3 := hx185_3
                 have hw185_2 := hx185_2
                 have hw185_1 := hx185_1
                 have hw185_0 := hx185_0
                 obtain rfl : ad182 = ad185 := (by injection e185)
                 replace hx185_0 := (HB.out.cell (World.block_lt_of_cell? w _ hx185_0)).trans hx185_0
                 replace hx185_1 := (HB.out.cell (World.block_lt_of_cell? w _ hx185_1)).trans hx185_1
                 replace hx185_2 := (HB.out.cell (World.block_lt_of_cell? w _ hx185_2)).trans hx185_2
                 replace hx185_3 := (HB.out.cell (World.block_lt_of_cell? w _ hx185_3)).trans hx185_3
                 replace hx185_4 := (HB.out.cell (World.block_lt_of_cell? w _ hx185_4)).trans hx185_4
                 replace hx185_5 := (HB.out.cell (World.block_lt_of_cell? w _ hx185_5)).trans hx185_5
                 replace p185 := eq_true p185
                 replace q185 := eq_true q185
                 refine start_ (n := 32) (S := fun w' => w'.cell? ⟨gb174, 0, none⟩ = some (.int .i64 a0_0) ∧ w'.cell? ⟨gb174, 1, none⟩ = some (.slice (some ad182) l0_1.length c0_1) ∧ w'.cell? ⟨gb174, 2, none⟩ = some (.slice (some ad184) l0_2.length c0_2) ∧ w'.cell? ⟨gb174, 3, none⟩ = some (.slice A0_3 l0_3.length c0_3) ∧ w'.cell? (ad184.add ((t183).toNat * 5)) = some (.int .i64 ((rd_T72 l0_2 t183).f0)) ∧ w'.cell? ⟨(ad184.add ((t183).toNat * 5)).block, (ad184.add ((t183).toNat * 5)).off + 1, none⟩ = some (.int .i64 ((rd_T72 l0_2 t183).f1)) ∧ w'.cell? ⟨(ad184.add ((t183).toNat * 5)).block, (ad184.add ((t183).toNat * 5)).off + 2, none⟩ = some (.int .u64 ((rd_T72 l0_2 t183).f2)) ∧ w'.cell? ⟨(ad184.add ((t183).toNat * 5)).block, (ad184.add ((t183).toNat * 5)).off + 3, none⟩ = some (.int .u64 ((rd_T72 l0_2 t183).f3)) ∧ w'.cell? ⟨(ad184.add ((t183).toNat * 5)).block, (ad184.add ((t183).toNat * 5)).off + 4, none⟩ = some (.int .i64 ((rd_T72 l0_2 t183).f4)) ∧ w'.cell? (ad182.add ((x8_3).toNat * 6)) = some (.int .i64 ((rd_T76 l0_1 x8_3).f0)) ∧ w'.cell? ⟨(ad182.add ((x8_3).toNat * 6)).block, (ad182.add ((x8_3).toNat * 6)).off + 1, none⟩ = some (.int .i64 ((rd_T76 l0_1 x8_3).f1)) ∧ w'.cell? ⟨(ad182.add ((x8_3).toNat * 6)).block, (ad182.add ((x8_3).toNat * 6)).off + 2, none⟩ = some (.int .u32 ((rd_T76 l0_1 x8_3).f2)) ∧ w'.cell? ⟨(ad182.add ((x8_3).toNat * 6)).block, (ad182.add ((x8_3).toNat * 6)).off + 3, none⟩ = some (.string ((rd_T76 l0_1 x8_3).f3)) ∧ w'.cell? ⟨(ad182.add ((x8_3).toNat * 6)).block, (ad182.add ((x8_3).toNat * 6)).off + 4, none⟩ = some (.int .u64 ((rd_T76 l0_1 x8_3).f4)) ∧ w'.cell? ⟨(ad182.add ((x8_3).toNat * 6)).block, (ad182.add ((x8_3).toNat * 6)).off + 5, none⟩ = some (.int .u64 ((rd_T76 l0_1 x8_3).f5))) (ds := []) #[false, false, false, false, false, false, false, false, false, false, false, false, false, false, false, false, false, false, false, false, false, false, false, false, false, false, false, false, false, false, false, false] (by kernel_rfl) rfl rfl ⟨(blk_cell BK174.out 0).trans rfl, (blk_cell BK174.out 1).trans rfl, (blk_cell BK174.out 2).trans rfl, (blk_cell BK174.out 3).trans rfl, ((HB.out.cell (World.block_lt_of_cell? w _ hw184_0)).trans hw184_0), ((HB.out.cell (World.block_lt_of_cell? w _ hw184_1)).trans hw184_1), ((HB.out.cell (World.block_lt_of_cell? w _ hw184_2)).trans hw184_2), ((HB.out.cell (World.block_lt_of_cell? w _ hw184_3)).trans hw184_3), ((HB.out.cell (World.block_lt_of_cell? w _ hw184_4)).trans hw184_4), ((HB.out.cell (World.block_lt_of_cell? w _ hw185_0)).trans hw185_0), ((HB.out.cell (World.block_lt_of_cell? w _ hw185_1)).trans hw185_1), ((HB.out.cell (World.block_lt_of_cell? w _ hw185_2)).trans hw185_2), ((HB.out.cell (World.block_lt_of_cell? w _ hw185_3)).trans hw185_3), ((HB.out.cell (World.block_lt_of_cell? w _ hw185_4)).trans hw185_4), ((HB.out.cell (World.block_lt_of_cell? w _ hw185_5)).trans hw185_5)⟩ (fun hHeld => ?_); refine with_tabW portreeveref04_Right.tab20 portreeveref04_Right.bits20 (fun HT_ HW_ => ?_)
                 generalize w41.drew = w48 at BK174 HB hx184_0 hx184_1 hx184_2 hx184_3 hx184_4 hx185_0 hx185_1 hx185_2 hx185_3 hx185_4 hx185_5 hHeld ⊢
                 refine pure_ (i := 0) (N := some 105) (v := ?_) (a' := ?_) #[true, false, false, false, false, false, false, false, false, false, false, false, false, false, false, false, false, false, false, false, false, false, false, false, false, false, false, false, false, false, false, false] rfl rfl (any_of HT_.out (by kernel_rfl)) (fun _ _ _ h => h) (Or.inl ⟨by rfl, ?_⟩) ?_ ?_
                 rotate_left
                 ·intro w'
                  go_simp
                  with_reducible rfl
                 rotate_left
                 ·simp only [Act.put, sT, s0, s1, i64_w, i32_w]
                  rfl
                 refine pure_ (i := 1) (N := some 106) (v := ?_) (a' := ?_) #[true, true, false, false, false, false, false, false, false, false, false, false, false, false, false, false, false, false, false, false, false, false, false, false, false, false, false, false, false, false, false, false] rfl rfl (any_of HT_.out (by kernel_rfl)) (fun _ _ _ h => h) (Or.inl ⟨by rfl, ?_⟩) ?_ ?_
                 rotate_left
                 ·intro w'
                  go_simp
                  with_reducible rfl
                 rotate_left
                 ·simp only [Act.put, sT, s0, s1, i64_w, i32_w]
                  rfl
                 refine pure_ (i := 2) (N := some 107) (v := ?_) (a' := ?_) #[true, true, true, false, false, false, false, false, false, false, false, false, false, false, false, false, false, false, false, false, false, false, false, false, false, false, false, false, false, false, false, false] rfl rfl (any_of HT_.out (by kernel_rfl)) (fun _ _ _ h => h) (Or.inl ⟨by rfl, ?_⟩) ?_ ?_
                 rotate_left
                 ·intro w'
                  go_simp
                  with_reducible rfl
                 rotate_left
                 ·simp only [Act.put, sT, s0, s1, i64_w, i32_w]
                  rfl
                 refine pure_ (i := 3) (N := some 108) (v := ?_) (a' := ?_) #[true, true, true, true, false, false, false, false, false, false, false, false, false, false, false, false, false, false, false, false, false, false, false, false, false, false, false, false, false, false, false, false] rfl rfl (any_of HT_.out (by kernel_rfl)) (fun _ _ _ h => h) (Or.inl ⟨by rfl, ?_⟩) ?_ ?_
                 rotate_left
                 ·intro w'
                  go_simp
                  with_reducible rfl
                 rotate_left
                 ·simp only [Act.put, sT, s0, s1, i64_w, i32_w]
                  rfl
                 refine pure_ (i := 5) (N := some 110) (v := ?_) (a' := ?_) #[true, true, true, true, false, true, false, false, false, false, false, false, false, false, false, false, false, false, false, false, false, false, false, false, false, false, false, false, false, false, false, false] rfl rfl (any_of HT_.out (by kernel_rfl)) (fun _ _ _ h => h) (Or.inl ⟨by rfl, ?_⟩) ?_ ?_
                 rotate_left
                 ·intro w'
                  go_simp
                  with_reducible rfl
                 rotate_left
                 ·simp only [Act.put, sT, s0, s1, i64_w, i32_w]
                  rfl
                 refine pure_ (i := 9) (N := some 114) (v := ?_) (a' := ?_) #[true, true, true, true, false, true, false, false, false, true, false, false, false, false, false, false, false, false, false, false, false, false, false, false, false, false, false, false, false, false, false, false] rfl rfl (any_of HT_.out (by kernel_rfl)) (fun _ _ _ h => h) (Or.inl ⟨by rfl, ?_⟩) ?_ ?_
                 rotate_left
                 ·intro w'
                  go_simp
                  with_reducible rfl
                 rotate_left
                 ·simp only [Act.put, sT, s0, s1, i64_w, i32_w]
                  rfl
                 refine pure_ (i := 11) (N := some 116) (v := ?_) (a' := ?_) #[true, true, true, true, false, true, false, false, false, true, false, true, false, false, false, false, false, false, false, false, false, false, false, false, false, false, false, false, false, false, false, false] rfl rfl (any_of HT_.out (by kernel_rfl)) (fun _ _ _ h => h) (Or.inl ⟨by rfl, ?_⟩) ?_ ?_
                 rotate_left
                 ·intro w'
                  go_simp
                  with_reducible rfl
                 rotate_left
                 ·simp only [Act.put, sT, s0, s1, i64_w, i32_w]
                  rfl
                 refine take_ (i := 4) (N := some 109) (v := ?_) (a' := ?_) #[true, true, true, true, true, true, false, false, false, true, false, true, false, false, false, false, false, false, false, false, false, false, false, false, false, false, false, false, false, false, false, false] rfl rfl (take_ofW HT_.out HW_.out (by kernel_rfl)) (fun _ _ _ h => h) (Or.inl ⟨by rfl, ?_⟩) hHeld ?_ ?_
                 rotate_left
                 ·rintro w' ⟨s0, s1, s2, s3, s4, s5, s6, s7, s8, s9, s10, s11, s12, s13, s14⟩
                  go_simp
                  with_reducible rfl
                 rotate_left
                 ·simp only [Act.put, sT, s0, s1, i64_w, i32_w]
                  rfl
                 refine pure_ (i := 6) (N := some 111) (v := ?_) (a' := ?_) #[true, true, true, true, true, true, true, false, false, true, false, true, false, false, false, false, false, false, false, false, false, false, false, false, false, false, false, false, false, false, false, false] rfl rfl (any_of HT_.out (by kernel_rfl)) (fun _ _ _ h => h) (Or.inl ⟨by rfl, ?_⟩) ?_ ?_
                 rotate_left
                 ·intro w'
                  go_simp
                  with_reducible rfl
                 rotate_left
                 ·simp only [Act.put, sT, s0, s1, i64_w, i32_w]
                  rfl
                 refine pure_ (i := 7) (N := some 112) (v := ?_) (a' := ?_) #[true, true, true, true, true, true, true, true, false, true, false, true, false, false, false, false, false, false, false, false, false, false, false, false, false, false, false, false, false, false, false, false] rfl rfl (any_of HT_.out (by kernel_rfl)) (fun _ _ _ h => h) (Or.inl ⟨by rfl, ?_⟩) ?_ ?_
                 rotate_left
                 ·intro w'
                  go_simp
                  with_reducible rfl
                 rotate_left
                 ·simp only [Act.put, sT, s0, s1, i64_w, i32_w]
                  rfl
                 refine take_ (i := 8) (N := some 113) (v := ?_) (a' := ?_) #[true, true, true, true, true, true, true, true, true, true, false, true, false, false, false, false, false, false, false, false, false, false, false, false, false, false, false, false, false, false, false, false] rfl rfl (take_ofW HT_.out HW_.out (by kernel_rfl)) (fun _ _ _ h => h) (Or.inl ⟨by rfl, ?_⟩) hHeld ?_ ?_
                 rotate_left
                 ·rintro w' ⟨s0, s1, s2, s3, s4, s5, s6, s7, s8, s9, s10, s11, s12, s13, s14⟩
                  go_simp
                  with_reducible rfl
                 rotate_left
                 ·simp only [Act.put, sT, s0, s1, i64_w, i32_w]
                  rfl
                 refine take_ (i := 10) (N := some 115) (v := ?_) (a' := ?_) #[true, true, true, true, true, true, true, true, true, true, true, true, false, false, false, false, false, false, false, false, false, false, false, false, false, false, false, false, false, false, false, false] rfl rfl (take_ofW HT_.out HW_.out (by kernel_rfl)) (fun _ _ _ h => h) (Or.inl ⟨by rfl, ?_⟩) hHeld ?_ ?_
                 rotate_left
                 ·rintro w' ⟨s0, s1, s2, s3, s4, s5, s6, s7, s8, s9, s10, s11, s12, s13, s14⟩
                  go_simp
                  with_reducible rfl
                 rotate_left
                 ·simp only [Act.put, sT, s0, s1, i64_w, i32_w]
                  rfl
                 refine pure_ (i := 12) (N := some 117) (v := ?_) (a' := ?_) #[true, true, true, true, true, true, true, true, true, true, true, true, true, false, false, false, false, false, false, false, false, false, false, false, false, false, false, false, false, false, false, false] rfl rfl (any_of HT_.out (by kernel_rfl)) (fun _ _ _ h => h) (Or.inl ⟨by rfl, ?_⟩) ?_ ?_
                 rotate_left
                 ·intro w'
                  go_simp
                  with_reducible rfl
                 rotate_left
                 ·simp only [Act.put, sT, s0, s1, i64_w, i32_w]
                  rfl
                 refine pure_ (i := 13) (N := some 118) (v := ?_) (a' := ?_) #[true, true, true, true, true, true, true, true, true, true, true, true, true, true, false, false, false, false, false, false, false, false, false, false, false, false, false, false, false, false, false, false] rfl rfl (any_of HT_.out (by kernel_rfl)) (fun _ _ _ h => h) (Or.inl ⟨by rfl, ?_⟩) ?_ ?_
                 rotate_left
                 ·intro w'
                  go_simp
                  with_reducible rfl
                 rotate_left
                 ·simp only [Act.put, sT, s0, s1, i64_w, i32_w]
                  rfl
                 refine take_ (i := 14) (N := some 119) (v := ?_) (a' := ?_) #[true, true, true, true, true, true, true, true, true, true, true, true, true, true, true, false, false, false, false, false, false, false, false, false, false, false, false, false, false, false, false, false] rfl rfl (take_ofW HT_.out HW_.out (by kernel_rfl)) (fun _ _ _ h => h) (Or.inl ⟨by rfl, ?_⟩) hHeld ?_ ?_
                 rotate_left
                 ·rintro w' ⟨s0, s1, s2, s3, s4, s5, s6, s7, s8, s9, s10, s11, s12, s13, s14⟩
                  go_simp
                  with_reducible rfl
                 rotate_left
                 ·simp only [Act.put, sT, s0, s1, i64_w, i32_w]
                  rfl
                 refine pure_ (i := 15) (N := some 120) (v := ?_) (a' := ?_) #[true, true, true, true, true, true, true, true, true, true, true, true, true, true, true, true, false, false, false, false, false, false, false, false, false, false, false, false, false, false, false, false] rfl rfl (any_of HT_.out (by kernel_rfl)) (fun _ _ _ h => h) (Or.inl ⟨by rfl, ?_⟩) ?_ ?_
                 rotate_left
                 ·intro w'
                  go_simp
                  with_reducible rfl
                 rotate_left
                 ·simp only [Act.put, sT, s0, s1, i64_w, i32_w]
                  rfl
                 refine pure_ (i := 16) (N := some 121) (v := ?_) (a' := ?_) #[true, true, true, true, true, true, true, true, true, true, true, true, true, true, true, true, true, false, false, false, false, false, false, false, false, false, false, false, false, false, false, false] rfl rfl (any_of HT_.out (by kernel_rfl)) (fun _ _ _ h => h) (Or.inl ⟨by rfl, ?_⟩) ?_ ?_
                 rotate_left
                 ·intro w'
                  go_simp
                  with_reducible rfl
                 rotate_left
                 ·simp only [Act.put, sT, s0, s1, i64_w, i32_w]
                  rfl
                 refine pure_ (i := 17) (N := some 122) (v := ?_) (a' := ?_) #[true, true, true, true, true, true, true, true, true, true, true, true, true, true, true, true, true, true, false, false, false, false, false, false, false, false, false, false, false, false, false, false] rfl rfl (any_of HT_.out (by kernel_rfl)) (fun _ _ _ h => h) (Or.inl ⟨by rfl, ?_⟩) ?_ ?_
                 rotate_left
                 ·intro w'
                  go_simp
                  with_reducible rfl
                 rotate_left
                 ·simp only [Act.put, sT, s0, s1, i64_w, i32_w]
                  rfl
                 refine pure_ (i := 18) (N := some 123) (v := undef) (a' := ?_) #[true, true, true, true, true, true, true, true, true, true, true, true, true, true, true, true, true, true, true, false, false, false, false, false, false, false, false, false, false, false, false, false] rfl rfl (any_of HT_.out (by kernel_rfl)) (fun _ _ _ h => h) (Or.inr ⟨by rfl, rfl⟩) ?_ ?_
                 rotate_left
                 ·simp only [Act.put, sT, s0, s1, i64_w, i32_w]
                  rfl
                 refine pure_ (i := 19) (N := some 124) (v := undef) (a' := ?_) #[true, true, true, true, true, true, true, true, true, true, true, true, true, true, true, true, true, true, true, true, false, false, false, false, false, false, false, false, false, false, false, false] rfl rfl (any_of HT_.out (by kernel_rfl)) (fun _ _ _ h => h) (Or.inr ⟨by rfl, rfl⟩) ?_ ?_
                 rotate_left
                 ·simp only [Act.put, sT, s0, s1, i64_w, i32_w]
                  rfl
                 refine pure_ (i := 20) (N := some 125) (v := undef) (a' := ?_) #[true, true, true, true, true, true, true, true, true, true, true, true, true, true, true, true, true, true, true, true, true, false, false, false, false, false, false, false, false, false, false, false] rfl rfl (any_of HT_.out (by kernel_rfl)) (fun _ _ _ h => h) (Or.inr ⟨by rfl, rfl⟩) ?_ ?_
                 rotate_left
                 ·simp only [Act.put, sT, s0, s1, i64_w, i32_w]
                  rfl
                 refine pure_ (i := 21) (N := some 126) (v := undef) (a' := ?_) #[true, true, true, true, true, true, true, true, true, true, true, true, true, true, true, true, true, true, true, true, true, true, false, false, false, false, false, false, false, false, false, false] rfl rfl (any_of HT_.out (by kernel_rfl)) (fun _ _ _ h => h) (Or.inr ⟨by rfl, rfl⟩) ?_ ?_
                 rotate_left
                 ·simp only [Act.put, sT, s0, s1, i64_w, i32_w]
                  rfl
                 refine pure_ (i := 22) (N := some 127) (v := undef) (a' := ?_) #[true, true, true, true, true, true, true, true, true, true, true, true, true, true, true, true, true, true, true, true, true, true, true, false, false, false, false, false, false, false, false, false] rfl rfl (any_of HT_.out (by kernel_rfl)) (fun _ _ _ h => h) (Or.inr ⟨by rfl, rfl⟩) ?_ ?_
                 rotate_left
                 ·simp only [Act.put, sT, s0, s1, i64_w, i32_w]
                  rfl
                 refine pure_ (i := 23) (N := some 128) (v := undef) (a' := ?_) #[true, true, true, true, true, true, true, true, true, true, true, true, true, true, true, true, true, true, true, true, true, true, true, true, false, false, false, false, false, false, false, false] rfl rfl (any_of HT_.out (by kernel_rfl)) (fun _ _ _ h => h) (Or.inr ⟨by rfl, rfl⟩) ?_ ?_
                 rotate_left
                 ·simp only [Act.put, sT, s0, s1, i64_w, i32_w]
                  rfl
                 refine pure_ (i := 24) (N := some 129) (v := undef) (a' := ?_) #[true, true, true, true, true, true, true, true, true, true, true, true, true, true, true, true, true, true, true, true, true, true, true, true, true, false, false, false, false, false, false, false] rfl rfl (any_of HT_.out (by kernel_rfl)) (fun _ _ _ h => h) (Or.inr ⟨by rfl, rfl⟩) ?_ ?_
                 rotate_left
                 ·simp only [Act.put, sT, s0, s1, i64_w, i32_w]
                  rfl
                 refine pure_ (i := 25) (N := some 130) (v := undef) (a' := ?_) #[true, true, true, true, true, true, true, true, true, true, true, true, true, true, true, true, true, true, true, true, true, true, true, true, true, true, false, false, false, false, false, false] rfl rfl (any_of HT_.out (by kernel_rfl)) (fun _ _ _ h => h) (Or.inr ⟨by rfl, rfl⟩) ?_ ?_
                 rotate_left
                 ·simp only [Act.put, sT, s0, s1, i64_w, i32_w]
                  rfl
                 refine pure_ (i := 26) (N := some 131) (v := undef) (a' := ?_) #[true, true, true, true, true, true, true, true, true, true, true, true, true, true, true, true, true, true, true, true, true, true, true, true, true, true, true, false, false, false, false, false] rfl rfl (any_of HT_.out (by kernel_rfl)) (fun _ _ _ h => h) (Or.inr ⟨by rfl, rfl⟩) ?_ ?_
                 rotate_left
                 ·simp only [Act.put, sT, s0, s1, i64_w, i32_w]
                  rfl
                 refine pure_ (i := 27) (N := some 132) (v := undef) (a' := ?_) #[true, true, true, true, true, true, true, true, true, true, true, true, true, true, true, true, true, true, true, true, true, true, true, true, true, true, true, true, false, false, false, false] rfl rfl (any_of HT_.out (by kernel_rfl)) (fun _ _ _ h => h) (Or.inr ⟨by rfl, rfl⟩) ?_ ?_
                 rotate_left
                 ·simp only [Act.put, sT, s0, s1, i64_w, i32_w]
                  rfl
                 refine pure_ (i := 28) (N := some 133) (v := undef) (a' := ?_) #[true, true, true, true, true, true, true, true, true, true, true, true, true, true, true, true, true, true, true, true, true, true, true, true, true, true, true, true, true, false, false, false] rfl rfl (any_of HT_.out (by kernel_rfl)) (fun _ _ _ h => h) (Or.inr ⟨by rfl, rfl⟩) ?_ ?_
                 rotate_left
                 ·simp only [Act.put, sT, s0, s1, i64_w, i32_w]
                  rfl
                 refine pure_ (i := 29) (N := some 134) (v := undef) (a' := ?_) #[true, true, true, true, true, true, true, true, true, true, true, true, true, true, true, true, true, true, true, true, true, true, true, true, true, true, true, true, true, true, false, false] rfl rfl (any_of HT_.out (by kernel_rfl)) (fun _ _ _ h => h) (Or.inr ⟨by rfl, rfl⟩) ?_ ?_
                 rotate_left
                 ·simp only [Act.put, sT, s0, s1, i64_w, i32_w]
                  rfl
                 refine pure_ (i := 30) (N := some 135) (v := undef) (a' := ?_) #[true, true, true, true, true, true, true, true, true, true, true, true, true, true, true, true, true, true, true, true, true, true, true, true, true, true, true, true, true, true, true, false] rfl rfl (any_of HT_.out (by kernel_rfl)) (fun _ _ _ h => h) (Or.inr ⟨by rfl, rfl⟩) ?_ ?_
                 rotate_left
                 ·simp only [Act.put, sT, s0, s1, i64_w, i32_w]
                  rfl
                 refine pure_ (i := 31) (N := some 136) (v := ?_) (a' := ?_) #[true, true, true, true, true, true, true, true, true, true, true, true, true, true, true, true, true, true, true, true, true, true, true, true, true, true, true, true, true, true, true, true] rfl rfl (any_of HT_.out (by kernel_rfl)) (fun _ _ _ h => h) (Or.inl ⟨by rfl, ?_⟩) ?_ ?_
                 rotate_left
                 ·intro w'
                  go_simp
                  with_reducible rfl
                 rotate_left
                 ·simp only [Act.put, sT, s0, s1, i64_w, i32_w]
                  rfl
                 refine done_ (done_of HT_.out (by kernel_rfl)) ?_
                 try go_wp2
                 go_meet_ [c42b0, c44b0, c45b0, c46b0]
                 case rel => exact ⟨_, (true), (by first | rfl | (simp; done) | (simp [*]; done)), H', ⟨by have := HJ1.out; have := HK2.out; have := HK3.out; first | omega | exact Nat.le_refl _⟩, ⟨zB BK174.out⟩, ⟨by repeat (first | (with_reducible first | exact HB.out | apply pA | apply pN | apply pD | refine pS ?_ GE174.out) | exact HB.out)⟩⟩
               ·rw [if_neg c45] at H
                exact absurd H (by simp)
              ·rw [if_neg c44] at H
               exact absurd H (by simp)
            case rest =>
             clear HC38
             try clear p1
             try clear q1
             try clear hx1
             try clear p2
             try clear c4
             try clear p18
             try clear q18
             try clear hx18
             try clear c42
             try clear c42b0
             try clear c44
             try clear c44b0
             try clear c45
             try clear c45b0
             try clear c46
             try clear c46b0
             try clear c46b1
             try clear hx184_0
             try clear hx184_1
             try clear hx184_2
             try clear hx184_3
             try clear hx184_4
             try clear hx185_0
             try clear hx185_1
             try clear hx185_2
             try clear hx185_3
             try clear hx185_4
             try clear hx185_5
             try clear hx186_0
             try clear hx186_1
             try clear hx186_2
             try clear hx186_3
             try clear hx186_4
             try clear hx187_0
             try clear hx187_1
             try clear hx187_2
             try clear hx187_3
             try clear hx187_4
             try clear hx187_5
             try clear p184
             try clear p185
             try clear p186
             try clear p187
             try clear q184
             try clear q185
             try clear q186
             try clear q187
             obtain ⟨kq, x136_37, rfl, HA, HJ37, BK174, HB⟩ := hcut
             cases kq with
             | zero => exact absurd HA.out (by simp [portreeveref04_Right.j4])
             | succ kj37 =>
              have H := HA.out
              clear HA
              simp only [portreeveref04_Right.j4] at H
              by_cases c49 : x136_37 = true
              ·subst c49
               have H1 : (some false) = some r := by rw [if_pos rfl] at H; exact H
               clear H
               have H := H1
               clear H1
               obtain rfl := Option.some.inj H
               go_wp2
               go_ret
               exact ⟨by first | rfl | (simp [errW_none, errW_some] <;> rfl) | (simp [*, errW_none, errW_some] <;> rfl), by repeat (first | (with_reducible first | exact HB.out | apply pA | apply pN | apply pD | refine pS ?_ GE174.out) | exact HB.out)⟩
              ·replace c49 := Bool.eq_false_iff.mpr c49
               subst c49
               have H1 : (portreeveref04_Right.l1 kj37 (wrap64 (x8_3 + 1)) a0_0 l0_1 l0_2 l0_3) = some r := by rw [if_neg (show ¬ (false = true) by decide)] at H; exact H
               clear H
               have H := H1
               clear H1
               have H' := Aside0.mk H
               clear H
               go_wp2
               go_roundg kj37
               case measure => have := HJ1.out; have := HK2.out; have := HK3.out; have := HJ37.out; omega
               case rel => exact ⟨(wrap64 (x8_3 + 1)), (by first | rfl | (simp; done) | (simp [*]; done)), H', ⟨by have := HJ1.out; have := HK2.out; have := HK3.out; have := HJ37.out; omega⟩, ⟨zB BK174.out⟩, ⟨by repeat (first | (with_reducible first | exact HB.out | apply pA | apply pN | apply pD | refine pS ?_ GE174.out) | exact HB.out)⟩⟩
           ·rw [if_neg c36] at H
            exact absurd H (by simp)
          ·rw [if_neg c35] at H
           have c35b0 : decide (x8_3 < (l0_1.length : Int)) = false := decide_eq_false c35
           clear c35
           have H' := Aside0.mk H
           clear H
           obtain ⟨hcz50_0, hcz50_1, hcz50_2, hcz50_3, hfz50_0, hfz50_1, hfz50_2, hfz50_3⟩ := bk4 BK174.out
           go_wp2
           go_loopg [10] k3 (fun kq v10 w' => ∃ (x10_4 : Int), v10 = .int .i64 x10_4 ∧ Aside0 (portreeveref04_Right.l2 kq x10_4 a0_0 l0_1 l0_2 l0_3 = some r) ∧ Aside0 (kq ≤ k3) ∧ Aside0 (w'.heap[gb174]? = some (.cells #[.int .i64 a0_0, (.slice A0_1 l0_1.length c0_1), (.slice A0_2 l0_2.length c0_2), (.slice A0_3 l0_3.length c0_3)] 26 (0, 0))) ∧ Aside0 (Below w.heap.size w w'))
           case atStart => exact ⟨(0), (by first | rfl | (simp; done) | (simp [*]; done)), H', ⟨Nat.le_refl _⟩, ⟨zB BK174.out⟩, ⟨by repeat (first | (with_reducible first | exact HB.out | apply pA | apply pN | apply pD | refine pS ?_ GE174.out) | exact HB.out)⟩⟩
           case round =>
            clear H'
            try clear p1
            try clear q1
            try clear hx1
            try clear p2
            try clear c3
            try clear c4
            try clear p6
            try clear p18
            try clear q18
            try clear hx18
            try clear c35
            try clear c35b0
            try clear c36
            try clear c42
            try clear c42b0
            try clear c44
            try clear c44b0
            try clear c45
            try clear c45b0
            try clear c46
            try clear c46b0
            try clear c46b1
            try clear c49
            try clear hcz50_0
            try clear hcz50_1
            try clear hcz50_2
            try clear hcz50_3
            try clear hfz50_0
            try clear hfz50_1
            try clear hfz50_2
            try clear hfz50_3
            try clear hx184_0
            try clear hx184_1
            try clear hx184_2
            try clear hx184_3
            try clear hx184_4
            try clear hx185_0
            try clear hx185_1
            try clear hx185_2
            try clear hx185_3
            try clear hx185_4
            try clear hx185_5
            try clear hx186_0
            try clear hx186_1
            try clear hx186_2
            try clear hx186_3
            try clear hx186_4
            try clear hx187_0
            try clear hx187_1
            try clear hx187_2
            try clear hx187_3
            try clear hx187_4
            try clear hx187_5
            try clear p1
            try clear p18
            try clear p184
            try clear p185
            try clear p186
            try clear p187
            try clear p2
            try clear q1
            try clear q18
            try clear q184
            try clear q185
            try clear q186
            try clear q187
            obtain ⟨x10_4, rfl, HA, HK4, BK174, HB⟩ := hrel
            cases gk with
            | zero => exact absurd HA.out (by simp [portreeveref04_Right.l2])
            | succ k4 =>
             have H := HA.out
             clear HA
             simp only [portreeveref04_Right.l2] at H
             by_cases c51 : x10_4 < (l0_3.length : Int)
             ·rw [if_pos c51] at H
              have c51b0 : decide (x10_4 < (l0_3.length : Int)) = true := decide_eq_true c51
              clear c51
              by_cases c52 : 0 ≤ x10_4
              ·rw [if_pos c52] at H
               have c52b0 : decide (0 ≤ x10_4) = true := decide_eq_true c52
               clear c52
               replace H := Option.bind_eq_some_iff.mp H
               obtain ⟨t190, A530, H⟩ := H
               replace H : (if t190 = true then (if ((rd_T64 l0_3 x10_4).f1) < 1 then (portreeveref04_Right.j6 k4 x10_4 true a0_0 l0_1 l0_2 l0_3) else (if ((rd_T64 l0_3 x10_4).f1) > 255 then (portreeveref04_Right.j6 k4 x10_4 true a0_0 l0_1 l0_2 l0_3) else (if ((rd_T64 l0_3 x10_4).f2) < 0 then (portreeveref04_Right.j6 k4 x10_4 true a0_0 l0_1 l0_2 l0_3) else (if ((rd_T64 l0_3 x10_4).f2) > 1000000000 then (portreeveref04_Right.j6 k4 x10_4 true a0_0 l0_1 l0_2 l0_3) else ((portreeveref04_Failed.f k4 a0_0 l0_1 l0_2 l0_3 ((rd_T64 l0_3 x10_4).f0)).bind fun t191 => (portreeveref04_Right.j6 k4 x10_4 (t191 != x10_4) a0_0 l0_1 l0_2 l0_3)))))) else (portreeveref04_Right.j6 k4 x10_4 true a0_0 l0_1 l0_2 l0_3)) = some r := H
               have A53 := Aside0.mk A530
               clear A530
               have HC54 := Aside0.mk H
               clear H
               obtain ⟨hcz55_0, hcz55_1, hcz55_2, hcz55_3, hfz55_0, hfz55_1, hfz55_2, hfz55_3⟩ := bk4 BK174.out
               have p188 : 0 ≤ (x10_4 : Int) := of_decide_eq_true (by first | (with_reducible assumption) | assumption)
               have q188 : x10_4 < (l0_3.length : Int) := of_decide_eq_true (by first | (with_reducible assumption) | assumption)
               obtain ⟨ad188, e188, hx188_0, hx188_1, hx188_2⟩ := at_T64 HR0_3.out x10_4 p188 q188
               cases e188
               replace hx188_0 := (HB.out.cell (World.block_lt_of_cell? w _ hx188_0)).trans hx188_0
               replace hx188_1 := (HB.out.cell (World.block_lt_of_cell? w _ hx188_1)).trans hx188_1
               replace hx188_2 := (HB.out.cell (World.block_lt_of_cell? w _ hx188_2)).trans hx188_2
               replace p188 := eq_true p188
               replace q188 := eq_true q188
               go_upto_region 27 with (first | ((with_reducible refine gate_dst (N := 11) rfl ?_); (try (refine gate_guard (by rfl) ?_; dsimp only)); refine box_event ?hg (N := 11) ?hd (cs := #[.string (⟨#[]⟩ : ByteArray), .int .i64 0, .int .i64 0]) (t := 64) ?hr ?_; (case hd => rfl); (case hg => rfl); (case hr => first | (go_simp; done) | (go_simp; rfl)); intro gb189 hg w56 hbox hb; have n0_ := Aside0.mk (blk_below (g := gb174) (o := .cells #[.int .i64 a0_0, .slice A0_1 l0_1.length c0_1, .slice A0_2 l0_2.length c0_2, .slice (some ad188) l0_3.length c0_3] 26 (0, 0)) (zB BK174.out) hb); have n1_ := Aside0.mk (below_step (by repeat (first | (with_reducible first | exact HB.out | apply pA | apply pN | apply pD | refine pS ?_ GE174.out) | exact HB.out)) hb); have n2_ := Aside0.mk (hbox); have n3_ := Aside0.mk ((by rw [hg]; exact (below_size (by repeat (first | (with_reducible first | exact HB.out | apply pA | apply pN | apply pD | refine pS ?_ GE174.out) | exact HB.out))) : w.heap.size ≤ gb189)); have n4_ := Aside0.mk ((by rw [hg]; exact (below_size (by repeat (first | (with_reducible first | exact HB.out | apply pA | apply pN | apply pD | refine pS ?_ GE174.out) | exact HB.out))) : w.heap.size ≤ gb189)); have n5_ := Aside0.mk ((by rw [hg]; exact Nat.ne_of_lt (blk_lt (g := gb174) (o := .cells #[.int .i64 a0_0, .slice A0_1 l0_1.length c0_1, .slice A0_2 l0_2.length c0_2, .slice (some ad188) l0_3.length c0_3] 26 (0, 0)) (zB BK174.out)) : gb174 ≠ gb189)); have n6_ := Aside0.mk ((by rw [hg]; exact Nat.ne_of_gt (blk_lt (g := gb174) (o := .cells #[.int .i64 a0_0, .slice A0_1 l0_1.length c0_1, .slice A0_2 l0_2.length c0_2, .slice (some ad188) l0_3.length c0_3] 26 (0, 0)) (zB BK174.out)) : gb189 ≠ gb174)); clear BK174; clear HB; have BK174 := n0_; have HB := n1_; have BK189 := n2_; have GW189 := n3_; have GE189 := n4_; have NB174_189 := n5_; have NB189_174 := n6_; clear n0_ n1_ n2_ n3_ n4_ n5_ n6_; clear hb hbox hg; have hnb57 := NB189_174.out; have hnc57 := NB174_189.out; obtain ⟨hcz58_0, hcz58_1, hcz58_2, hfz58_0, hfz58_1, hfz58_2⟩ := bk3 BK189.out) | ((with_reducible refine gate_callee (f := 29) rfl ?_); refine goesL_ (some 151) rfl rfl Try.func29 (by kernel_rfl) rfl #[.string ((rd_T64 l0_3 x10_4).f0)] rfl (by (try simp only [List.map_toArray, List.map_cons, List.map_nil]); first | done | rfl | (simp only [List.length_drop, List.length_take]; rfl)) ?_; (with_reducible refine (portreeveref04_name.calls ((rd_T64 l0_3 x10_4).f0) t190 _ A53.out).mono ?_); rintro e w' ⟨rfl, ⟨nd, rfl⟩⟩; refine ⟨_, rfl, ?_⟩))
               (try simp only [Act.put, sT, s0, s1])
               go_cut [181] (fun v181 wc => ∃ (kq : Nat) (x181_53 : Bool), v181 = .bool x181_53 ∧ Aside0 (portreeveref04_Right.j6 kq x10_4 x181_53 a0_0 l0_1 l0_2 l0_3 = some r) ∧ Aside0 (kq ≤ k4) ∧ Aside0 (wc.heap[gb174]? = some (.cells #[.int .i64 a0_0, (.slice A0_1 l0_1.length c0_1), (.slice A0_2 l0_2.length c0_2), (.slice (some ad188) l0_3.length c0_3)] 26 (0, 0))) ∧ Aside0 (wc.heap[gb189]? = some (.cells #[.string ((rd_T64 l0_3 x10_4).f0), .int .i64 ((rd_T64 l0_3 x10_4).f1), .int .i64 ((rd_T64 l0_3 x10_4).f2)] 64 (0, 0))) ∧ Aside0 (Below w.heap.size w wc))
               case first =>
                have H := HC54.out
                clear HC54
                by_cases c59 : t190 = true
                ·subst c59
                 have H1 : (if ((rd_T64 l0_3 x10_4).f1) < 1 then (portreeveref04_Right.j6 k4 x10_4 true a0_0 l0_1 l0_2 l0_3) else (if ((rd_T64 l0_3 x10_4).f1) > 255 then (portreeveref04_Right.j6 k4 x10_4 true a0_0 l0_1 l0_2 l0_3) else (if ((rd_T64 l0_3 x10_4).f2) < 0 then (portreeveref04_Right.j6 k4 x10_4 true a0_0 l0_1 l0_2 l0_3) else (if ((rd_T64 l0_3 x10_4).f2) > 1000000000 then (portreeveref04_Right.j6 k4 x10_4 true a0_0 l0_1 l0_2 l0_3) else ((portreeveref04_Failed.f k4 a0_0 l0_1 l0_2 l0_3 ((rd_T64 l0_3 x10_4).f0)).bind fun t191 => (portreeveref04_Right.j6 k4 x10_4 (t191 != x10_4) a0_0 l0_1 l0_2 l0_3)))))) = some r := by rw [if_pos rfl] at H; exact H
                 clear H
                 have H := H1
                 clear H1
                 by_cases c60 : ((rd_T64 l0_3 x10_4).f1) < 1
                 ·rw [if_pos c60] at H
                  have c60b0 : decide (((rd_T64 l0_3 x10_4).f1) < 1) = true := decide_eq_true c60
                  clear c60
                  (first | rw [c60b0] | (simp only [i64_w, i32_w]; rw [c60b0]) | skip)
                  have H' := Aside0.mk H
                  clear H
                  have hnb61 := NB189_174.out
                  have hnc61 := NB174_189.out
                  obtain ⟨hcz62_0, hcz62_1, hcz62_2, hfz62_0, hfz62_1, hfz62_2⟩ := bk3 BK189.out
                  go_wp2
                  go_meet_ [c60b0]
                  case rel => exact ⟨_, (true), (by first | rfl | (simp; done) | (simp [*]; done)), H', ⟨by have := HJ1.out; have := HK2.out; have := HK3.out; have := HK4.out; first | omega | exact Nat.le_refl _⟩, ⟨by (with_reducible repeat (first | refine qN ?_ _ | refine qD ?_ | refine qA ?_ _)); refine blk_far ?_ NB174_189.out _; (with_reducible repeat (first | refine qN ?_ _ | refine qD ?_ | refine qA ?_ _)); refine blk_far ?_ NB174_189.out _; (with_reducible repeat (first | refine qN ?_ _ | refine qD ?_ | refine qA ?_ _)); refine blk_far ?_ NB174_189.out _; (with_reducible repeat (first | refine qN ?_ _ | refine qD ?_ | refine qA ?_ _)); exact BK174.out⟩, ⟨by (with_reducible repeat (first | refine qN ?_ _ | refine qD ?_ | refine qA ?_ _)); refine blk_put (cs := #[.string ((rd_T64 l0_3 x10_4).f0), .int .i64 ((rd_T64 l0_3 x10_4).f1), .int .i64 0]) ?_ 2 _ rfl; (with_reducible repeat (first | refine qN ?_ _ | refine qD ?_ | refine qA ?_ _)); refine blk_put (cs := #[.string ((rd_T64 l0_3 x10_4).f0), .int .i64 0, .int .i64 0]) ?_ 1 _ rfl; (with_reducible repeat (first | refine qN ?_ _ | refine qD ?_ | refine qA ?_ _)); refine blk_put (cs := #[.string (⟨#[]⟩ : ByteArray), .int .i64 0, .int .i64 0]) ?_ 0 _ rfl; (with_reducible repeat (first | refine qN ?_ _ | refine qD ?_ | refine qA ?_ _)); exact BK189.out⟩, ⟨by repeat (first | (with_reducible first | exact HB.out | apply pA | apply pN | apply pD | refine pS ?_ GE174.out | refine pS ?_ GE189.out) | exact HB.out)⟩⟩
                 ·rw [if_neg c60] at H
                  have c60b0 : decide (((rd_T64 l0_3 x10_4).f1) < 1) = false := decide_eq_false c60
                  clear c60
                  (first | rw [c60b0] | (simp only [i64_w, i32_w]; rw [c60b0]) | skip)
                  by_cases c63 : ((rd_T64 l0_3 x10_4).f1) > 255
                  ·rw [if_pos c63] at H
                   have c63b0 : decide (255 < ((rd_T64 l0_3 x10_4).f1)) = true := decide_eq_true c63
                   clear c63
                   have H' := Aside0.mk H
                   clear H
                   have hnb64 := NB189_174.out
                   have hnc64 := NB174_189.out
                   obtain ⟨hcz65_0, hcz65_1, hcz65_2, hfz65_0, hfz65_1, hfz65_2⟩ := bk3 BK189.out
                   go_wp2
                   go_meet_ [c60b0, c63b0]
                   case rel => exact ⟨_, (true), (by first | rfl | (simp; done) | (simp [*]; done)), H', ⟨by have := HJ1.out; have := HK2.out; have := HK3.out; have := HK4.out; first | omega | exact Nat.le_refl _⟩, ⟨by (with_reducible repeat (first | refine qN ?_ _ | refine qD ?_ | refine qA ?_ _)); refine blk_far ?_ NB174_189.out _; (with_reducible repeat (first | refine qN ?_ _ | refine qD ?_ | refine qA ?_ _)); refine blk_far ?_ NB174_189.out _; (with_reducible repeat (first | refine qN ?_ _ | refine qD ?_ | refine qA ?_ _)); refine blk_far ?_ NB174_189.out _; (with_reducible repeat (first | refine qN ?_ _ | refine qD ?_ | refine qA ?_ _)); exact BK174.out⟩, ⟨by (with_reducible repeat (first | refine qN ?_ _ | refine qD ?_ | refine qA ?_ _)); refine blk_put (cs := #[.string ((rd_T64 l0_3 x10_4).f0), .int .i64 ((rd_T64 l0_3 x10_4).f1), .int .i64 0]) ?_ 2 _ rfl; (with_reducible repeat (first | refine qN ?_ _ | refine qD ?_ | refine qA ?_ _)); refine blk_put (cs := #[.string ((rd_T64 l0_3 x10_4).f0), .int .i64 0, .int .i64 0]) ?_ 1 _ rfl; (with_reducible repeat (first | refine qN ?_ _ | refine qD ?_ | refine qA ?_ _)); refine blk_put (cs := #[.string (⟨#[]⟩ : ByteArray), .int .i64 0, .int .i64 0]) ?_ 0 _ rfl; (with_reducible repeat (first | refine qN ?_ _ | refine qD ?_ | refine qA ?_ _)); exact BK189.out⟩, ⟨by repeat (first | (with_reducible first | exact HB.out | apply pA | apply pN | apply pD | refine pS ?_ GE174.out | refine pS ?_ GE189.out) | exact HB.out)⟩⟩
                  ·rw [if_neg c63] at H
                   have c63b0 : decide (255 < ((rd_T64 l0_3 x10_4).f1)) = false := decide_eq_false c63
                   clear c63
                   by_cases c66 : ((rd_T64 l0_3 x10_4).f2) < 0
                   ·rw [if_pos c66] at H
                    have c66b0 : decide (((rd_T64 l0_3 x10_4).f2) < 0) = true := decide_eq_true c66
                    clear c66
                    have H' := Aside0.mk H
                    clear H
                    have hnb67 := NB189_174.out
                    have hnc67 := NB174_189.out
                    obtain ⟨hcz68_0, hcz68_1, hcz68_2, hfz68_0, hfz68_1, hfz68_2⟩ := bk3 BK189.out
                    go_wp2
                    go_meet_ [c60b0, c63b0, c66b0]
                    case rel => exact ⟨_, (true), (by first | rfl | (simp; done) | (simp [*]; done)), H', ⟨by have := HJ1.out; have := HK2.out; have := HK3.out; have := HK4.out; first | omega | exact Nat.le_refl _⟩, ⟨by (with_reducible repeat (first | refine qN ?_ _ | refine qD ?_ | refine qA ?_ _)); refine blk_far ?_ NB174_189.out _; (with_reducible repeat (first | refine qN ?_ _ | refine qD ?_ | refine qA ?_ _)); refine blk_far ?_ NB174_189.out _; (with_reducible repeat (first | refine qN ?_ _ | refine qD ?_ | refine qA ?_ _)); refine blk_far ?_ NB174_189.out _; (with_reducible repeat (first | refine qN ?_ _ | refine qD ?_ | refine qA ?_ _)); exact BK174.out⟩, ⟨by (with_reducible repeat (first | refine qN ?_ _ | refine qD ?_ | refine qA ?_ _)); refine blk_put (cs := #[.string ((rd_T64 l0_3 x10_4).f0), .int .i64 ((rd_T64 l0_3 x10_4).f1), .int .i64 0]) ?_ 2 _ rfl; (with_reducible repeat (first | refine qN ?_ _ | refine qD ?_ | refine qA ?_ _)); refine blk_put (cs := #[.string ((rd_T64 l0_3 x10_4).f0), .int .i64 0, .int .i64 0]) ?_ 1 _ rfl; (with_reducible repeat (first | refine qN ?_ _ | refine qD ?_ | refine qA ?_ _)); refine blk_put (cs := #[.string (⟨#[]⟩ : ByteArray), .int .i64 0, .int .i64 0]) ?_ 0 _ rfl; (with_reducible repeat (first | refine qN ?_ _ | refine qD ?_ | refine qA ?_ _)); exact BK189.out⟩, ⟨by repeat (first | (with_reducible first | exact HB.out | apply pA | apply pN | apply pD | refine pS ?_ GE174.out | refine pS ?_ GE189.out) | exact HB.out)⟩⟩
                   ·rw [if_neg c66] at H
                    have c66b0 : decide (((rd_T64 l0_3 x10_4).f2) < 0) = false := decide_eq_false c66
                    clear c66
                    by_cases c69 : ((rd_T64 l0_3 x10_4).f2) > 1000000000
                    ·rw [if_pos c69] at H
                     have c69b0 : decide (1000000000 < ((rd_T64 l0_3 x10_4).f2)) = true := decide_eq_true c69
                     clear c69
                     have H' := Aside0.mk H
                     clear H
                     have hnb70 := NB189_174.out
                     have hnc70 := NB174_189.out
                     obtain ⟨hcz71_0, hcz71_1, hcz71_2, hfz71_0, hfz71_1, hfz71_2⟩ := bk3 BK189.out
                     go_wp2
                     go_meet_ [c60b0, c63b0, c66b0, c69b0]
                     case rel => exact ⟨_, (true), (by first | rfl | (simp; done) | (simp [*]; done)), H', ⟨by have := HJ1.out; have := HK2.out; have := HK3.out; have := HK4.out; first | omega | exact Nat.le_refl _⟩, ⟨by (with_reducible repeat (first | refine qN ?_ _ | refine qD ?_ | refine qA ?_ _)); refine blk_far ?_ NB174_189.out _; (with_reducible repeat (first | refine qN ?_ _ | refine qD ?_ | refine qA ?_ _)); refine blk_far ?_ NB174_189.out _; (with_reducible repeat (first | refine qN ?_ _ | refine qD ?_ | refine qA ?_ _)); refine blk_far ?_ NB174_189.out _; (with_reducible repeat (first | refine qN ?_ _ | refine qD ?_ | refine qA ?_ _)); exact BK174.out⟩, ⟨by (with_reducible repeat (first | refine qN ?_ _ | refine qD ?_ | refine qA ?_ _)); refine blk_put (cs := #[.string ((rd_T64 l0_3 x10_4).f0), .int .i64 ((rd_T64 l0_3 x10_4).f1), .int .i64 0]) ?_ 2 _ rfl; (with_reducible repeat (first | refine qN ?_ _ | refine qD ?_ | refine qA ?_ _)); refine blk_put (cs := #[.string ((rd_T64 l0_3 x10_4).f0), .int .i64 0, .int .i64 0]) ?_ 1 _ rfl; (with_reducible repeat (first | refine qN ?_ _ | refine qD ?_ | refine qA ?_ _)); refine blk_put (cs := #[.string (⟨#[]⟩ : ByteArray), .int .i64 0, .int .i64 0]) ?_ 0 _ rfl; (with_reducible repeat (first | refine qN ?_ _ | refine qD ?_ | refine qA ?_ _)); exact BK189.out⟩, ⟨by repeat (first | (with_reducible first | exact HB.out | apply pA | apply pN | apply pD | refine pS ?_ GE174.out | refine pS ?_ GE189.out) | exact HB.out)⟩⟩
                    ·rw [if_neg c69] at H
                     have c69b0 : decide (1000000000 < ((rd_T64 l0_3 x10_4).f2)) = false := decide_eq_false c69
                     clear c69
                     replace H := Option.bind_eq_some_iff.mp H
                     obtain ⟨t191, A720, H⟩ := H
                     replace H : (portreeveref04_Right.j6 k4 x10_4 (t191 != x10_4) a0_0 l0_1 l0_2 l0_3) = some r := H
                     have A72 := Aside0.mk A720
                     clear A720
                     have H' := Aside0.mk H
                     clear H
                     have hnb73 := NB189_174.out
                     have hnc73 := NB174_189.out
                     obtain ⟨hcz74_0, hcz74_1, hcz74_2, hfz74_0, hfz74_1, hfz74_2⟩ := bk3 BK189.out
                     obtain ⟨hcz75_0, hcz75_1, hcz75_2, hcz75_3, hfz75_0, hfz75_1, hfz75_2, hfz75_3⟩ := bk4 BK174.out
                     go_wp2_with (first | (go_at_call 30; (with_reducible refine (portreeveref04_Failed.calls k4 a0_0 _ _ l0_1 _ _ l0_2 _ _ l0_3 ((rd_T64 l0_3 x10_4).f0) t191 _ ?side1 ?side2 ?side3 ?side4 ?side5 ?side6 A72.out).mono ?_); (case side1 => exact Kd.C_below HR0_1.out (by repeat (first | (with_reducible first | exact HB.out | apply pA | apply pN | apply pD | refine pS ?_ GE174.out | refine pS ?_ GE189.out) | exact HB.out))); (case side2 => exact HC0_1.out); (case side3 => exact Kd.C_below HR0_2.out (by repeat (first | (with_reducible first | exact HB.out | apply pA | apply pN | apply pD | refine pS ?_ GE174.out | refine pS ?_ GE189.out) | exact HB.out))); (case side4 => exact HC0_2.out); (case side5 => exact Kd.C_below HR0_3.out (by repeat (first | (with_reducible first | exact HB.out | apply pA | apply pN | apply pD | refine pS ?_ GE174.out | refine pS ?_ GE189.out) | exact HB.out))); (case side6 => exact HC0_3.out); rintro e w76 ⟨rfl, hb⟩; have n0_ := Aside0.mk (blk_below (g := gb174) (o := .cells #[.int .i64 a0_0, .slice A0_1 l0_1.length c0_1, .slice A0_2 l0_2.length c0_2, .slice (some ad188) l0_3.length c0_3] 26 (0, 0)) (by (with_reducible repeat (first | refine qN ?_ _ | refine qD ?_ | refine qA ?_ _)); refine blk_far ?_ NB174_189.out _; (with_reducible repeat (first | refine qN ?_ _ | refine qD ?_ | refine qA ?_ _)); refine blk_far ?_ NB174_189.out _; (with_reducible repeat (first | refine qN ?_ _ | refine qD ?_ | refine qA ?_ _)); refine blk_far ?_ NB174_189.out _; (with_reducible repeat (first | refine qN ?_ _ | refine qD ?_ | refine qA ?_ _)); exact BK174.out) hb); have n1_ := Aside0.mk (blk_below (g := gb189) (o := .cells #[.string ((rd_T64 l0_3 x10_4).f0), .int .i64 ((rd_T64 l0_3 x10_4).f1), .int .i64 ((rd_T64 l0_3 x10_4).f2)] 64 (0, 0)) (by (with_reducible repeat (first | refine qN ?_ _ | refine qD ?_ | refine qA ?_ _)); refine blk_put (cs := #[.string ((rd_T64 l0_3 x10_4).f0), .int .i64 ((rd_T64 l0_3 x10_4).f1), .int .i64 0]) ?_ 2 _ rfl; (with_reducible repeat (first | refine qN ?_ _ | refine qD ?_ | refine qA ?_ _)); refine blk_put (cs := #[.string ((rd_T64 l0_3 x10_4).f0), .int .i64 0, .int .i64 0]) ?_ 1 _ rfl; (with_reducible repeat (first | refine qN ?_ _ | refine qD ?_ | refine qA ?_ _)); refine blk_put (cs := #[.string (⟨#[]⟩ : ByteArray), .int .i64 0, .int .i64 0]) ?_ 0 _ rfl; (with_reducible repeat (first | refine qN ?_ _ | refine qD ?_ | refine qA ?_ _)); exact BK189.out) hb); have n2_ := Aside0.mk (below_step (by repeat (first | (with_reducible first | exact HB.out | apply pA | apply pN | apply pD | refine pS ?_ GE174.out | refine pS ?_ GE189.out) | exact HB.out)) hb); clear BK174; clear BK189; clear HB; have BK174 := n0_; have BK189 := n1_; have HB := n2_; clear n0_ n1_ n2_; (try clear hb); (try clear hb2); (try clear hk); (try clear hi)))
                     go_meet_ [c60b0, c63b0, c66b0, c69b0]
                     case rel => exact ⟨_, ((t191 != x10_4)), (by first | rfl | (simp; done) | (simp [*]; done)), H', ⟨by have := HJ1.out; have := HK2.out; have := HK3.out; have := HK4.out; first | omega | exact Nat.le_refl _⟩, ⟨zB BK174.out⟩, ⟨zB BK189.out⟩, ⟨by repeat (first | (with_reducible first | exact HB.out | apply pA | apply pN | apply pD | refine pS ?_ GE174.out | refine pS ?_ GE189.out) | exact HB.out)⟩⟩
                ·replace c59 := Bool.eq_false_iff.mpr c59
                 subst c59
                 have H1 : (portreeveref04_Right.j6 k4 x10_4 true a0_0 l0_1 l0_2 l0_3) = some r := by rw [if_neg (show ¬ (false = true) by decide)] at H; exact H
                 clear H
                 have H := H1
                 clear H1
                 have H' := Aside0.mk H
                 clear H
                 go_wp2
                 go_meet
                 case rel => exact ⟨_, (true), (by first | rfl | (simp; done) | (simp [*]; done)), H', ⟨by have := HJ1.out; have := HK2.out; have := HK3.out; have := HK4.out; first | omega | exact Nat.le_refl _⟩, ⟨by (with_reducible repeat (first | refine qN ?_ _ | refine qD ?_ | refine qA ?_ _)); refine blk_far ?_ NB174_189.out _; (with_reducible repeat (first | refine qN ?_ _ | refine qD ?_ | refine qA ?_ _)); refine blk_far ?_ NB174_189.out _; (with_reducible repeat (first | refine qN ?_ _ | refine qD ?_ | refine qA ?_ _)); refine blk_far ?_ NB174_189.out _; (with_reducible repeat (first | refine qN ?_ _ | refine qD ?_ | refine qA ?_ _)); exact BK174.out⟩, ⟨by (with_reducible repeat (first | refine qN ?_ _ | refine qD ?_ | refine qA ?_ _)); refine blk_put (cs := #[.string ((rd_T64 l0_3 x10_4).f0), .int .i64 ((rd_T64 l0_3 x10_4).f1), .int .i64 0]) ?_ 2 _ rfl; (with_reducible repeat (first | refine qN ?_ _ | refine qD ?_ | refine qA ?_ _)); refine blk_put (cs := #[.string ((rd_T64 l0_3 x10_4).f0), .int .i64 0, .int .i64 0]) ?_ 1 _ rfl; (with_reducible repeat (first | refine qN ?_ _ | refine qD ?_ | refine qA ?_ _)); refine blk_put (cs := #[.string (⟨#[]⟩ : ByteArray), .int .i64 0, .int .i64 0]) ?_ 0 _ rfl; (with_reducible repeat (first | refine qN ?_ _ | refine qD ?_ | refine qA ?_ _)); exact BK189.out⟩, ⟨by repeat (first | (with_reducible first | exact HB.out | apply pA | apply pN | apply pD | refine pS ?_ GE174.out | refine pS ?_ GE189.out) | exact HB.out)⟩⟩
               case rest =>
                clear HC54
                try clear p1
                try clear q1
                try clear hx1
                try clear c2
                try clear p2
                try clear c3
                try clear c4
                try clear c5
                try clear c6
                try clear p6
                try clear c7
                try clear p18
                try clear q18
                try clear hx18
                try clear c29
                try clear c35
                try clear c35b0
                try clear c36
                try clear c42
                try clear c42b0
                try clear c44
                try clear c44b0
                try clear c45
                try clear c45b0
                try clear c46
                try clear c46b0
                try clear c46b1
                try clear c49
                try clear c51
                try clear c51b0
                try clear c52
                try clear c52b0
                try clear c57
                try clear c59
                try clear c60
                try clear c60b0
                try clear c61
                try clear c63
                try clear c63b0
                try clear c64
                try clear p64
                try clear c66
                try clear c66b0
                try clear c67
                try clear c69
                try clear c69b0
                try clear c70
                try clear c73
                try clear hcz50_0
                try clear hcz50_1
                try clear hcz50_2
                try clear hcz50_3
                try clear hcz55_0
                try clear hcz55_1
                try clear hcz55_2
                try clear hcz55_3
                try clear hcz58_0
                try clear hcz58_1
                try clear hcz58_2
                try clear hcz62_0
                try clear hcz62_1
                try clear hcz62_2
                try clear hcz65_0
                try clear hcz65_1
                try clear hcz65_2
                try clear hcz68_0
                try clear hcz68_1
                try clear hcz68_2
                try clear hcz71_0
                try clear hcz71_1
                try clear hcz71_2
                try clear hcz74_0
                try clear hcz74_1
                try clear hcz74_2
                try clear hcz75_0
                try clear hcz75_1
                try clear hcz75_2
                try clear hcz75_3
                try clear hfz50_0
                try clear hfz50_1
                try clear hfz50_2
                try clear hfz50_3
                try clear hfz55_0
                try clear hfz55_1
                try clear hfz55_2
                try clear hfz55_3
                try clear hfz58_0
                try clear hfz58_1
                try clear hfz58_2
                try clear hfz62_0
                try clear hfz62_1
                try clear hfz62_2
                try clear hfz65_0
                try clear hfz65_1
                try clear hfz65_2
                try clear hfz68_0
                try clear hfz68_1
                try clear hfz68_2
                try clear hfz71_0
                try clear hfz71_1
                try clear hfz71_2
                try clear hfz74_0
                try clear hfz74_1
                try clear hfz74_2
                try clear hfz75_0
                try clear hfz75_1
                try clear hfz75_2
                try clear hfz75_3
                try clear hx184_0
                try clear hx184_1
                try clear hx184_2
                try clear hx184_3
                try clear hx184_4
                try clear hx185_0
                try clear hx185_1
                try clear hx185_2
                try clear hx185_3
                try clear hx185_4
                try clear hx185_5
                try clear hx186_0
                try clear hx186_1
                try clear hx186_2
                try clear hx186_3
                try clear hx186_4
                try clear hx187_0
                try clear hx187_1
                try clear hx187_2
                try clear hx187_3
                try clear hx187_4
                try clear hx187_5
                try clear hx188_0
                try clear hx188_1
                try clear hx188_2
                try clear p1
                try clear p18
                try clear p184
                try clear p185
                try clear p186
                try clear p187
                try clear p188
                try clear p2
                try clear p6
                try clear q1
                try clear q18
                try clear q184
                try clear q185
                try clear q186
                try clear q187
                try clear q188
                obtain ⟨kq, x181_53, rfl, HA, HJ53, BK174, BK189, HB⟩ := hcut
                cases kq with
                | zero => exact absurd HA.out (by simp [portreeveref04_Right.j6])
                | succ kj53 =>
                 have H := HA.out
                 clear HA
                 simp only [portreeveref04_Right.j6] at H
                 by_cases c77 : x181_53 = true
                 ·subst c77
                  have H1 : (some false) = some r := by rw [if_pos rfl] at H; exact H
                  clear H
                  have H := H1
                  clear H1
                  obtain rfl := Option.some.inj H
                  go_wp2
                  go_ret
                  exact ⟨by first | rfl | (simp [errW_none, errW_some] <;> rfl) | (simp [*, errW_none, errW_some] <;> rfl), by repeat (first | (with_reducible first | exact HB.out | apply pA | apply pN | apply pD | refine pS ?_ GE174.out | refine pS ?_ GE189.out) | exact HB.out)⟩
                 ·replace c77 := Bool.eq_false_iff.mpr c77
                  subst c77
                  have H1 : (portreeveref04_Right.l2 kj53 (wrap64 (x10_4 + 1)) a0_0 l0_1 l0_2 l0_3) = some r := by rw [if_neg (show ¬ (false = true) by decide)] at H; exact H
                  clear H
                  have H := H1
                  clear H1
                  have H' := Aside0.mk H
                  clear H
                  go_wp2
                  go_roundg kj53
                  case measure => have := HJ1.out; have := HK2.out; have := HK3.out; have := HK4.out; have := HJ53.out; omega
                  case rel => exact ⟨(wrap64 (x10_4 + 1)), (by first | rfl | (simp; done) | (simp [*]; done)), H', ⟨by have := HJ1.out; have := HK2.out; have := HK3.out; have := HK4.out; have := HJ53.out; omega⟩, ⟨zB BK174.out⟩, ⟨by repeat (first | (with_reducible first | exact HB.out | apply pA | apply pN | apply pD | refine pS ?_ GE174.out | refine pS ?_ GE189.out) | exact HB.out)⟩⟩
              ·rw [if_neg c52] at H
               exact absurd H (by simp)
             ·rw [if_neg c51] at H
              have c51b0 : decide (x10_4 < (l0_3.length : Int)) = false := decide_eq_false c51
              clear c51
              obtain rfl := Option.some.inj H
              obtain ⟨hcz78_0, hcz78_1, hcz78_2, hcz78_3, hfz78_0, hfz78_1, hfz78_2, hfz78_3⟩ := bk4 BK174.out
              go_wp2
              go_ret
              exact ⟨by first | rfl | (simp [errW_none, errW_some] <;> rfl) | (simp [*, errW_none, errW_some] <;> rfl), by repeat (first | (with_reducible first | exact HB.out | apply pA | apply pN | apply pD | refine pS ?_ GE174.out) | exact HB.out)⟩
    ·replace c13 := Bool.eq_false_iff.mpr c13
     subst c13
     have H1 : (some false) = some r := by rw [if_neg (show ¬ (false = true) by decide)] at H; exact H
     clear H
     have H := H1
     clear H1
     obtain rfl := Option.some.inj H
     obtain ⟨hcz79_0, hcz79_1, hcz79_2, hcz79_3, hfz79_0, hfz79_1, hfz79_2, hfz79_3⟩ := bk4 BK174.out
     go_wp2_with (first | ((with_reducible refine gate_callee (f := 26) rfl ?_); refine goesL_ (some 38) rfl rfl Try.func26 (by kernel_rfl) rfl #[.agg #[.int .i64 a0_0, .slice A0_1 l0_1.length c0_1, .slice A0_2 l0_2.length c0_2, .slice A0_3 l0_3.length c0_3]] rfl (by (try simp only [List.map_toArray, List.map_cons, List.map_nil]); first | done | rfl | (simp only [List.length_drop, List.length_take]; rfl)) ?_; (with_reducible refine (portreeveref04_open.calls kj1 a0_0 _ _ l0_1 _ _ l0_2 _ _ l0_3 false _ ?side1 ?side2 ?side3 ?side4 ?side5 ?side6 A12.out).mono ?_); (case side1 => repeat (first | exact (Kd.C_below HR0_1.out HB.out) | (with_reducible refine Kd.C_alloc ?_ _) | (with_reducible refine Kd.C_drewN ?_ _) | (with_reducible refine Kd.C_drew ?_))); (case side2 => exact HC0_1.out); (case side3 => repeat (first | exact (Kd.C_below HR0_2.out HB.out) | (with_reducible refine Kd.C_alloc ?_ _) | (with_reducible refine Kd.C_drewN ?_ _) | (with_reducible refine Kd.C_drew ?_))); (case side4 => exact HC0_2.out); (case side5 => repeat (first | exact (Kd.C_below HR0_3.out HB.out) | (with_reducible refine Kd.C_alloc ?_ _) | (with_reducible refine Kd.C_drewN ?_ _) | (with_reducible refine Kd.C_drew ?_))); (case side6 => exact HC0_3.out); rintro e w80 ⟨rfl, hb⟩; refine ⟨_, rfl, ?_⟩; have n0_ := Aside0.mk (blk_below (g := gb174) (o := .cells #[.int .i64 a0_0, .slice A0_1 l0_1.length c0_1, .slice A0_2 l0_2.length c0_2, .slice A0_3 l0_3.length c0_3] 26 (0, 0)) (zB BK174.out) hb); have n1_ := Aside0.mk (below_step (by repeat (first | (with_reducible first | exact HB.out | apply pA | apply pN | apply pD | refine pS ?_ GE174.out) | exact HB.out)) hb); clear BK174; clear HB; have BK174 := n0_; have HB := n1_; clear n0_ n1_; (try clear hb); (try clear hb2); (try clear hk); (try clear hi)))
     go_ret
     exact ⟨by first | rfl | (simp [errW_none, errW_some] <;> rfl) | (simp [*, errW_none, errW_some] <;> rfl), by repeat (first | (with_reducible first | exact HB.out | apply pA | apply pN | apply pD | refine pS ?_ GE174.out) | exact HB.out)⟩

end Go.Proofs.Ytocjadhpaecpaaa.Q

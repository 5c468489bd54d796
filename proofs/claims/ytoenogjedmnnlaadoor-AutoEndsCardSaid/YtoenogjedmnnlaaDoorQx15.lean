-- written by this session's own program (wip/tools/myprint.py), over the kit's print
import Derived.Test.YtoenogjedmnnlaaDoorQx0
import Derived.Test.YtoenogjedmnnlaaDoorQx1
import Derived.Test.YtoenogjedmnnlaaDoorQx2
import Derived.Test.YtoenogjedmnnlaaDoorQx5
import Derived.Test.YtoenogjedmnnlaaDoorQx6
namespace Go.Proofs.YtoenogjedmnnlaaDoor.Q
open Go.RowKit Go.Proofs.YtoenogjedmnnlaaDoorW.PrintWords Go.Proofs.YtoenogjedmnnlaaDoorW.PrintLast Go.Proofs.YtoenogjedmnnlaaDoorW.PrintMore
open Go.Proofs.YtoenogjedmnnlaaDoorV Go.Proofs.YtoenogjedmnnlaaDoorG
attribute [local go_sem] max2_int min2_int max_two min_two max_three min_three max_four min_four   -- for this text's walks alone
set_option linter.unusedVariables false
set_option linter.unusedSimpArgs false

attribute [local go_sem high] eqA23
/-! ### portreevelaw12_AutoEnds: function 5 -/
mutual
def portreevelaw12_AutoEnds.j0 : Nat → Int → Bool → Bool → Int → Int → Int → Int → Option (Bool)
  | 0, _, _, _, _, _, _, _ => none
  | k + 1, x1, x5, x23, x733000, x733001, x733002, x733003 => if x23 = true then (some x5) else (portreevelaw12_AutoEnds.l0 k x1 x5 0 (wrap64 (3 - x733002)) 0 x733000 x733001 x733002 x733003 x733000 x733001 x733002 x733003)
def portreevelaw12_AutoEnds.l0 : Nat → Int → Bool → Int → Int → Int → Int → Int → Int → Int → Int → Int → Int → Int → Option (Bool)
  | 0, _, _, _, _, _, _, _, _, _, _, _, _, _ => none
  | k + 1, x1, x5, x6, x7, x9, x733000, x733001, x733002, x733003, x736000, x736001, x736002, x736003 => (auto_Bound.f).bind fun t736 => (if x9 < t736 then ((auto_Tick.f x736000 x736001 x736002 x736003).bind fun bt737 => (if (bt737.2.2.2.2.length : Int) > 0 then (if (wrap64 (x7 + 1)) = 3 then (portreevelaw12_AutoEnds.j2 k x1 x5 x6 0 x9 bt737.2.2.2.2 x733000 x733001 x733002 x733003 bt737.1 bt737.2.1 bt737.2.2.1 bt737.2.2.2.1) else (some false)) else (portreevelaw12_AutoEnds.j2 k x1 x5 x6 (wrap64 (x7 + 1)) x9 bt737.2.2.2.2 x733000 x733001 x733002 x733003 bt737.1 bt737.2.1 bt737.2.2.1 bt737.2.2.2.1))) else ((portreeveref11_Timed.f x733000).bind fun t747 => (if t747 = true then (if x6 = x733001 then (if x736000 = 2 then (portreevelaw12_AutoEnds.j4 k x1 x5 x6 false x733000 x733001 x733002 x733003 x736000 x736001 x736002 x736003) else (portreevelaw12_AutoEnds.j4 k x1 x5 x6 (x736000 != 3) x733000 x733001 x733002 x733003 x736000 x736001 x736002 x736003)) else (portreevelaw12_AutoEnds.j4 k x1 x5 x6 true x733000 x733001 x733002 x733003 x736000 x736001 x736002 x736003)) else (portreevelaw12_AutoEnds.j4 k x1 x5 x6 false x733000 x733001 x733002 x733003 x736000 x736001 x736002 x736003))))
def portreevelaw12_AutoEnds.j2 : Nat → Int → Bool → Int → Int → Int → List Int → Int → Int → Int → Int → Int → Int → Int → Int → Option (Bool)
  | 0, _, _, _, _, _, _, _, _, _, _, _, _, _, _ => none
  | k + 1, x1, x5, x6, x7, x9, x11, x733000, x733001, x733002, x733003, x745000, x745001, x745002, x745003 => (portreeveref11_Has.f k x11 7).bind fun t745 => (if t745 = true then (portreevelaw12_AutoEnds.j3 k x1 x5 x6 x7 x9 true x733000 x733001 x733002 x733003 x745000 x745001 x745002 x745003) else ((portreeveref11_Has.f k x11 10).bind fun t746 => (portreevelaw12_AutoEnds.j3 k x1 x5 x6 x7 x9 t746 x733000 x733001 x733002 x733003 x745000 x745001 x745002 x745003)))
def portreevelaw12_AutoEnds.j3 : Nat → Int → Bool → Int → Int → Int → Bool → Int → Int → Int → Int → Int → Int → Int → Int → Option (Bool)
  | 0, _, _, _, _, _, _, _, _, _, _, _, _, _, _ => none
  | k + 1, x1, x5, x6, x7, x9, x51, x733000, x733001, x733002, x733003, x745000, x745001, x745002, x745003 => if x51 = true then (portreevelaw12_AutoEnds.l0 k x1 x5 (wrap64 (x6 + 1)) x7 (wrap64 (x9 + 1)) x733000 x733001 x733002 x733003 x745000 x745001 x745002 x745003) else (portreevelaw12_AutoEnds.l0 k x1 x5 x6 x7 (wrap64 (x9 + 1)) x733000 x733001 x733002 x733003 x745000 x745001 x745002 x745003)
def portreevelaw12_AutoEnds.j4 : Nat → Int → Bool → Int → Bool → Int → Int → Int → Int → Int → Int → Int → Int → Option (Bool)
  | 0, _, _, _, _, _, _, _, _, _, _, _, _ => none
  | k + 1, x1, x5, x6, x73, x733000, x733001, x733002, x733003, x736000, x736001, x736002, x736003 => if x73 = true then (some false) else (if x5 = true then ((portreeveref11_Timed.f x736000).bind fun t748 => (if t748 = true then (some false) else ((auto_Bound.f).bind fun t749 => ((auto_Quiet.f k x733000 x733001 x733002 x733003 t749).bind fun bt750 => (if (bt750.1 == x736000 && (bt750.2.1 == x736001 && (bt750.2.2.1 == x736002 && (bt750.2.2.2 == x736003)))) = true then ((auto_Bound.f).bind fun t754 => ((auto_Quiet.f k x733000 x733001 x733002 x733003 (wrap64 (t754 + x1))).bind fun bt755 => (if (bt755.1 == x736000 && (bt755.2.1 == x736001 && (bt755.2.2.1 == x736002 && (bt755.2.2.2 == x736003)))) = true then ((portreeveref11_Timed.f x733000).bind fun t759 => (if t759 = true then (some true) else (if (x736000 == x733000 && (x736001 == x733001 && (x736002 == x733002 && (x736003 == x733003)))) = true then (some (x6 == 0)) else (some false)))) else (some false)))) else (some false)))))) else (some false))
end
def portreevelaw12_AutoEnds.f (k : Nat) (a0_0 : Int) (a0_1 : Int) (a0_2 : Int) (a0_3 : Int) (a1 : Int) : Option (Bool) := (portreevelaw12_shown.f k).bind fun t733 => ((portreeveref12_Right.f k a0_0 a0_1 a0_2 a0_3).bind fun t734 => (if t734 = true then (if a1 < 0 then (portreevelaw12_AutoEnds.j0 k a1 t733 true a0_0 a0_1 a0_2 a0_3) else (portreevelaw12_AutoEnds.j0 k a1 t733 (decide (a1 > 1000)) a0_0 a0_1 a0_2 a0_3)) else (portreevelaw12_AutoEnds.j0 k a1 t733 true a0_0 a0_1 a0_2 a0_3)))
theorem portreevelaw12_AutoEnds.mono_l : ∀ k, (∀ y0 y1 y2 y3 y4 y5 y6, LeO (portreevelaw12_AutoEnds.j0 k y0 y1 y2 y3 y4 y5 y6) (portreevelaw12_AutoEnds.j0 (k + 1) y0 y1 y2 y3 y4 y5 y6)) ∧ (∀ y0 y1 y2 y3 y4 y5 y6 y7 y8 y9 y10 y11 y12, LeO (portreevelaw12_AutoEnds.l0 k y0 y1 y2 y3 y4 y5 y6 y7 y8 y9 y10 y11 y12) (portreevelaw12_AutoEnds.l0 (k + 1) y0 y1 y2 y3 y4 y5 y6 y7 y8 y9 y10 y11 y12)) ∧ (∀ y0 y1 y2 y3 y4 y5 y6 y7 y8 y9 y10 y11 y12 y13, LeO (portreevelaw12_AutoEnds.j2 k y0 y1 y2 y3 y4 y5 y6 y7 y8 y9 y10 y11 y12 y13) (portreevelaw12_AutoEnds.j2 (k + 1) y0 y1 y2 y3 y4 y5 y6 y7 y8 y9 y10 y11 y12 y13)) ∧ (∀ y0 y1 y2 y3 y4 y5 y6 y7 y8 y9 y10 y11 y12 y13, LeO (portreevelaw12_AutoEnds.j3 k y0 y1 y2 y3 y4 y5 y6 y7 y8 y9 y10 y11 y12 y13) (portreevelaw12_AutoEnds.j3 (k + 1) y0 y1 y2 y3 y4 y5 y6 y7 y8 y9 y10 y11 y12 y13)) ∧ (∀ y0 y1 y2 y3 y4 y5 y6 y7 y8 y9 y10 y11, LeO (portreevelaw12_AutoEnds.j4 k y0 y1 y2 y3 y4 y5 y6 y7 y8 y9 y10 y11) (portreevelaw12_AutoEnds.j4 (k + 1) y0 y1 y2 y3 y4 y5 y6 y7 y8 y9 y10 y11))
  | 0 => ⟨fun _ _ _ _ _ _ _ r h => by simp [portreevelaw12_AutoEnds.j0] at h, fun _ _ _ _ _ _ _ _ _ _ _ _ _ r h => by simp [portreevelaw12_AutoEnds.l0] at h, fun _ _ _ _ _ _ _ _ _ _ _ _ _ _ r h => by simp [portreevelaw12_AutoEnds.j2] at h, fun _ _ _ _ _ _ _ _ _ _ _ _ _ _ r h => by simp [portreevelaw12_AutoEnds.j3] at h, fun _ _ _ _ _ _ _ _ _ _ _ _ r h => by simp [portreevelaw12_AutoEnds.j4] at h⟩
  | k + 1 => by
    obtain ⟨ih0, ih1, ih2, ih3, ih4⟩ := portreevelaw12_AutoEnds.mono_l k
    refine ⟨?_, ?_, ?_, ?_, ?_⟩
    · intro y0 y1 y2 y3 y4 y5 y6
      unfold portreevelaw12_AutoEnds.j0
      repeat' first
      | (with_reducible exact ih0 _ _ _ _ _ _ _)
      | (with_reducible exact ih1 _ _ _ _ _ _ _ _ _ _ _ _ _)
      | (with_reducible exact ih2 _ _ _ _ _ _ _ _ _ _ _ _ _ _)
      | (with_reducible exact ih3 _ _ _ _ _ _ _ _ _ _ _ _ _ _)
      | (with_reducible exact ih4 _ _ _ _ _ _ _ _ _ _ _ _)
      | (with_reducible exact auto_Quiet.mono _ _ _ _ _ _)
      | (with_reducible exact portreevelaw12_shown.mono _)
      | (with_reducible exact portreeveref11_Has.mono _ _ _)
      | (with_reducible exact portreeveref12_Right.mono _ _ _ _ _)
      | (with_reducible exact LeO.refl _)
      | (with_reducible exact LeO.none _)
      | (with_reducible refine LeO.ite ?_ ?_)
      | (with_reducible refine LeO.bind ?_ (fun _ => ?_))
      | exact ih0 _ _ _ _ _ _ _
      | exact ih1 _ _ _ _ _ _ _ _ _ _ _ _ _
      | exact ih2 _ _ _ _ _ _ _ _ _ _ _ _ _ _
      | exact ih3 _ _ _ _ _ _ _ _ _ _ _ _ _ _
      | exact ih4 _ _ _ _ _ _ _ _ _ _ _ _
      | exact auto_Quiet.mono _ _ _ _ _ _
      | exact portreevelaw12_shown.mono _
      | exact portreeveref11_Has.mono _ _ _
      | exact portreeveref12_Right.mono _ _ _ _ _
      | exact LeO.none _
      | refine LeO.ite ?_ ?_
      | refine LeO.bind ?_ (fun _ => ?_)
    · intro y0 y1 y2 y3 y4 y5 y6 y7 y8 y9 y10 y11 y12
      unfold portreevelaw12_AutoEnds.l0
      repeat' first
      | (with_reducible exact ih0 _ _ _ _ _ _ _)
      | (with_reducible exact ih1 _ _ _ _ _ _ _ _ _ _ _ _ _)
      | (with_reducible exact ih2 _ _ _ _ _ _ _ _ _ _ _ _ _ _)
      | (with_reducible exact ih3 _ _ _ _ _ _ _ _ _ _ _ _ _ _)
      | (with_reducible exact ih4 _ _ _ _ _ _ _ _ _ _ _ _)
      | (with_reducible exact auto_Quiet.mono _ _ _ _ _ _)
      | (with_reducible exact portreevelaw12_shown.mono _)
      | (with_reducible exact portreeveref11_Has.mono _ _ _)
      | (with_reducible exact portreeveref12_Right.mono _ _ _ _ _)
      | (with_reducible exact LeO.refl _)
      | (with_reducible exact LeO.none _)
      | (with_reducible refine LeO.ite ?_ ?_)
      | (with_reducible refine LeO.bind ?_ (fun _ => ?_))
      | exact ih0 _ _ _ _ _ _ _
      | exact ih1 _ _ _ _ _ _ _ _ _ _ _ _ _
      | exact ih2 _ _ _ _ _ _ _ _ _ _ _ _ _ _
      | exact ih3 _ _ _ _ _ _ _ _ _ _ _ _ _ _
      | exact ih4 _ _ _ _ _ _ _ _ _ _ _ _
      | exact auto_Quiet.mono _ _ _ _ _ _
      | exact portreevelaw12_shown.mono _
      | exact portreeveref11_Has.mono _ _ _
      | exact portreeveref12_Right.mono _ _ _ _ _
      | exact LeO.none _
      | refine LeO.ite ?_ ?_
      | refine LeO.bind ?_ (fun _ => ?_)
    · intro y0 y1 y2 y3 y4 y5 y6 y7 y8 y9 y10 y11 y12 y13
      unfold portreevelaw12_AutoEnds.j2
      repeat' first
      | (with_reducible exact ih0 _ _ _ _ _ _ _)
      | (with_reducible exact ih1 _ _ _ _ _ _ _ _ _ _ _ _ _)
      | (with_reducible exact ih2 _ _ _ _ _ _ _ _ _ _ _ _ _ _)
      | (with_reducible exact ih3 _ _ _ _ _ _ _ _ _ _ _ _ _ _)
      | (with_reducible exact ih4 _ _ _ _ _ _ _ _ _ _ _ _)
      | (with_reducible exact auto_Quiet.mono _ _ _ _ _ _)
      | (with_reducible exact portreevelaw12_shown.mono _)
      | (with_reducible exact portreeveref11_Has.mono _ _ _)
      | (with_reducible exact portreeveref12_Right.mono _ _ _ _ _)
      | (with_reducible exact LeO.refl _)
      | (with_reducible exact LeO.none _)
      | (with_reducible refine LeO.ite ?_ ?_)
      | (with_reducible refine LeO.bind ?_ (fun _ => ?_))
      | exact ih0 _ _ _ _ _ _ _
      | exact ih1 _ _ _ _ _ _ _ _ _ _ _ _ _
      | exact ih2 _ _ _ _ _ _ _ _ _ _ _ _ _ _
      | exact ih3 _ _ _ _ _ _ _ _ _ _ _ _ _ _
      | exact ih4 _ _ _ _ _ _ _ _ _ _ _ _
      | exact auto_Quiet.mono _ _ _ _ _ _
      | exact portreevelaw12_shown.mono _
      | exact portreeveref11_Has.mono _ _ _
      | exact portreeveref12_Right.mono _ _ _ _ _
      | exact LeO.none _
      | refine LeO.ite ?_ ?_
      | refine LeO.bind ?_ (fun _ => ?_)
    · intro y0 y1 y2 y3 y4 y5 y6 y7 y8 y9 y10 y11 y12 y13
      unfold portreevelaw12_AutoEnds.j3
      repeat' first
      | (with_reducible exact ih0 _ _ _ _ _ _ _)
      | (with_reducible exact ih1 _ _ _ _ _ _ _ _ _ _ _ _ _)
      | (with_reducible exact ih2 _ _ _ _ _ _ _ _ _ _ _ _ _ _)
      | (with_reducible exact ih3 _ _ _ _ _ _ _ _ _ _ _ _ _ _)
      | (with_reducible exact ih4 _ _ _ _ _ _ _ _ _ _ _ _)
      | (with_reducible exact auto_Quiet.mono _ _ _ _ _ _)
      | (with_reducible exact portreevelaw12_shown.mono _)
      | (with_reducible exact portreeveref11_Has.mono _ _ _)
      | (with_reducible exact portreeveref12_Right.mono _ _ _ _ _)
      | (with_reducible exact LeO.refl _)
      | (with_reducible exact LeO.none _)
      | (with_reducible refine LeO.ite ?_ ?_)
      | (with_reducible refine LeO.bind ?_ (fun _ => ?_))
      | exact ih0 _ _ _ _ _ _ _
      | exact ih1 _ _ _ _ _ _ _ _ _ _ _ _ _
      | exact ih2 _ _ _ _ _ _ _ _ _ _ _ _ _ _
      | exact ih3 _ _ _ _ _ _ _ _ _ _ _ _ _ _
      | exact ih4 _ _ _ _ _ _ _ _ _ _ _ _
      | exact auto_Quiet.mono _ _ _ _ _ _
      | exact portreevelaw12_shown.mono _
      | exact portreeveref11_Has.mono _ _ _
      | exact portreeveref12_Right.mono _ _ _ _ _
      | exact LeO.none _
      | refine LeO.ite ?_ ?_
      | refine LeO.bind ?_ (fun _ => ?_)
    · intro y0 y1 y2 y3 y4 y5 y6 y7 y8 y9 y10 y11
      unfold portreevelaw12_AutoEnds.j4
      repeat' first
      | (with_reducible exact ih0 _ _ _ _ _ _ _)
      | (with_reducible exact ih1 _ _ _ _ _ _ _ _ _ _ _ _ _)
      | (with_reducible exact ih2 _ _ _ _ _ _ _ _ _ _ _ _ _ _)
      | (with_reducible exact ih3 _ _ _ _ _ _ _ _ _ _ _ _ _ _)
      | (with_reducible exact ih4 _ _ _ _ _ _ _ _ _ _ _ _)
      | (with_reducible exact auto_Quiet.mono _ _ _ _ _ _)
      | (with_reducible exact portreevelaw12_shown.mono _)
      | (with_reducible exact portreeveref11_Has.mono _ _ _)
      | (with_reducible exact portreeveref12_Right.mono _ _ _ _ _)
      | (with_reducible exact LeO.refl _)
      | (with_reducible exact LeO.none _)
      | (with_reducible refine LeO.ite ?_ ?_)
      | (with_reducible refine LeO.bind ?_ (fun _ => ?_))
      | exact ih0 _ _ _ _ _ _ _
      | exact ih1 _ _ _ _ _ _ _ _ _ _ _ _ _
      | exact ih2 _ _ _ _ _ _ _ _ _ _ _ _ _ _
      | exact ih3 _ _ _ _ _ _ _ _ _ _ _ _ _ _
      | exact ih4 _ _ _ _ _ _ _ _ _ _ _ _
      | exact auto_Quiet.mono _ _ _ _ _ _
      | exact portreevelaw12_shown.mono _
      | exact portreeveref11_Has.mono _ _ _
      | exact portreeveref12_Right.mono _ _ _ _ _
      | exact LeO.none _
      | refine LeO.ite ?_ ?_
      | refine LeO.bind ?_ (fun _ => ?_)
theorem portreevelaw12_AutoEnds.mono : ∀ a0 a1 a2 a3 a4 k, LeO (portreevelaw12_AutoEnds.f k a0 a1 a2 a3 a4) (portreevelaw12_AutoEnds.f (k + 1) a0 a1 a2 a3 a4) := by
  intro a0 a1 a2 a3 a4 k
  obtain ⟨ih0, ih1, ih2, ih3, ih4⟩ := portreevelaw12_AutoEnds.mono_l k
  unfold portreevelaw12_AutoEnds.f
  repeat' first
      | (with_reducible exact ih0 _ _ _ _ _ _ _)
      | (with_reducible exact ih1 _ _ _ _ _ _ _ _ _ _ _ _ _)
      | (with_reducible exact ih2 _ _ _ _ _ _ _ _ _ _ _ _ _ _)
      | (with_reducible exact ih3 _ _ _ _ _ _ _ _ _ _ _ _ _ _)
      | (with_reducible exact ih4 _ _ _ _ _ _ _ _ _ _ _ _)
      | (with_reducible exact auto_Quiet.mono _ _ _ _ _ _)
      | (with_reducible exact portreevelaw12_shown.mono _)
      | (with_reducible exact portreeveref11_Has.mono _ _ _)
      | (with_reducible exact portreeveref12_Right.mono _ _ _ _ _)
      | (with_reducible exact LeO.refl _)
      | (with_reducible exact LeO.none _)
      | (with_reducible refine LeO.ite ?_ ?_)
      | (with_reducible refine LeO.bind ?_ (fun _ => ?_))
      | exact ih0 _ _ _ _ _ _ _
      | exact ih1 _ _ _ _ _ _ _ _ _ _ _ _ _
      | exact ih2 _ _ _ _ _ _ _ _ _ _ _ _ _ _
      | exact ih3 _ _ _ _ _ _ _ _ _ _ _ _ _ _
      | exact ih4 _ _ _ _ _ _ _ _ _ _ _ _
      | exact auto_Quiet.mono _ _ _ _ _ _
      | exact portreevelaw12_shown.mono _
      | exact portreeveref11_Has.mono _ _ _
      | exact portreeveref12_Right.mono _ _ _ _ _
      | exact LeO.none _
      | refine LeO.ite ?_ ?_
      | refine LeO.bind ?_ (fun _ => ?_)
def portreevelaw12_AutoEnds.T21 : Bool × List (List Nat × List Nat) := (true, [([], []), ([0], [0]), ([1], [1]), ([2, 1], [1, 2]), ([3, 1, 1], [1, 3]), ([4, 1], [1, 4]), ([1, 5], [1, 5]), ([6, 4], [6]), ([7], [7]), ([7, 7], [7]), ([8, 9, 9, 7], [7, 8, 9]), ([7], [7]), ([10, 11, 7], [7, 10, 11]), ([7, 12], [7, 12]), ([13, 10], [13]), ([14], [14]), ([14, 14], [14]), ([14], [14]), ([16, 17, 14], [14, 16, 17]), ([15, 18, 16, 14], [14, 15, 18]), ([14], [14]), ([19, 20, 14], [14, 19, 20]), ([14, 21], [14, 21]), ([22, 19], [22]), ([23], [23]), ([24, 23], [23, 24]), ([25, 23, 23], [23, 25]), ([26, 26, 23], [23, 26]), ([27], [27]), ([27], [27]), ([28, 29, 27], [27, 28, 29]), ([30, 27, 27], [27, 30]), ([31], [31]), ([32, 31], [31, 32]), ([31, 33, 27], [27, 31, 33]), ([27, 34, 23], [23, 27, 34]), ([23, 35], [23, 35]), ([36, 31, 0, 1, 2, 3, 4, 5, 6, 7, 8, 9, 10, 11, 12, 13, 14, 15, 16, 17, 18, 19, 20, 21, 22, 23, 24, 25, 26, 27, 28, 29, 30, 31, 32, 33, 34, 35, 36], [36])])
def portreevelaw12_AutoEnds.B21 : List Nat := [0, 1, 3, 7, 15, 31, 63, 127, 255, 255, 1023, 255, 4095, 8191, 16383, 32767, 32767, 32767, 229375, 524287, 32767, 2097151, 4194303, 8388607, 16777215, 33554431, 67108863, 134217727, 268435455, 268435455, 1073741823, 2147483647, 4294967295, 8589934591, 17179869183, 34359738367, 68719476735, 137438953471]
theorem portreevelaw12_AutoEnds.tab21 : rtab .any (opsOf Tryd.f5 21) = portreevelaw12_AutoEnds.T21 := by kernel_rfl
theorem portreevelaw12_AutoEnds.bits21 : waitsOk portreevelaw12_AutoEnds.T21.2 portreevelaw12_AutoEnds.B21 = true := by kernel_rfl
set_option maxHeartbeats 8000000 in
set_option maxRecDepth 100000 in
theorem portreevelaw12_AutoEnds.calls (k : Nat) (a0_0 : Int) (a0_1 : Int) (a0_2 : Int) (a0_3 : Int) (a1 : Int) (r : Bool) (w : World) (hlaw_ : Aside0 (r = true)) (hgl : Gl w) (h : portreevelaw12_AutoEnds.f k a0_0 a0_1 a0_2 a0_3 a1 = some r) :
    Calls Tryd.prog 5 #[.agg #[.int .i64 a0_0, .int .i64 a0_1, .int .i64 a0_2, .int .u8 a0_3], .int .i64 a1] w fun e w' => e = .returned (.bool r) ∧ Below w.heap.size w w' := by
  have hu23 := Tryd.underlying23
  have HB := Aside0.mk (Below.refl w.heap.size w)
  have HGL := Aside0.mk hgl
  clear hgl
  have H : ((portreevelaw12_shown.f k).bind fun t733 => ((portreeveref12_Right.f k a0_0 a0_1 a0_2 a0_3).bind fun t734 => (if t734 = true then (if a1 < 0 then (portreevelaw12_AutoEnds.j0 k a1 t733 true a0_0 a0_1 a0_2 a0_3) else (portreevelaw12_AutoEnds.j0 k a1 t733 (decide (a1 > 1000)) a0_0 a0_1 a0_2 a0_3)) else (portreevelaw12_AutoEnds.j0 k a1 t733 true a0_0 a0_1 a0_2 a0_3)))) = some r := h
  clear h
  replace H := Option.bind_eq_some_iff.mp H
  obtain ⟨t733, A30, H⟩ := H
  replace H : ((portreeveref12_Right.f k a0_0 a0_1 a0_2 a0_3).bind fun t734 => (if t734 = true then (if a1 < 0 then (portreevelaw12_AutoEnds.j0 k a1 t733 true a0_0 a0_1 a0_2 a0_3) else (portreevelaw12_AutoEnds.j0 k a1 t733 (decide (a1 > 1000)) a0_0 a0_1 a0_2 a0_3)) else (portreevelaw12_AutoEnds.j0 k a1 t733 true a0_0 a0_1 a0_2 a0_3))) = some r := H
  have A3 := Aside0.mk A30
  clear A30
  have HC4 := Aside0.mk H
  clear H
  go_enter Tryd.func5, Tryd.ntmps5
  go_upto_region 2 with (first | ((with_reducible refine gate_dst (N := 2) rfl ?_); refine box_event ?hg (N := 2) ?hd (cs := #[.int .i64 a0_0, .int .i64 a0_1, .int .i64 a0_2, .int .u8 a0_3]) (t := 23) ?hr ?_; (case hd => rfl); (case hg => rfl); (case hr => first | (go_simp; done) | (go_simp; rfl)); intro gb732 hg w5 hbox hb; have n0_ := Aside0.mk (below_step (by repeat (first | (with_reducible first | exact HB.out | apply pA | apply pN | apply pD) | exact HB.out)) hb); have n1_ := Aside0.mk (hbox); have n2_ := Aside0.mk ((by rw [hg]; exact (below_size (by repeat (first | (with_reducible first | exact HB.out | apply pA | apply pN | apply pD) | exact HB.out))) : w.heap.size ≤ gb732)); have n3_ := Aside0.mk ((by rw [hg]; exact (below_size (by repeat (first | (with_reducible first | exact HB.out | apply pA | apply pN | apply pD) | exact HB.out))) : w.heap.size ≤ gb732)); clear HB; have HB := n0_; have BK732 := n1_; have GW732 := n2_; have GE732 := n3_; clear n0_ n1_ n2_ n3_; clear hb hbox hg) | ((with_reducible refine gate_callee (f := 9) rfl ?_); refine goesL_ (some 12) rfl rfl Tryd.func9 (by kernel_rfl) rfl #[] rfl (by (try simp only [List.map_toArray, List.map_cons, List.map_nil]); first | done | rfl | (simp only [List.length_drop, List.length_take]; rfl)) ?_; (with_reducible refine (portreevelaw12_shown.calls k  t733 _ ?side1 A3.out).mono ?_); (case side1 => exact (HGL.out.below (by repeat (first | (with_reducible first | exact HB.out | apply pA | apply pN | apply pD | refine pS ?_ GE732.out) | exact HB.out)))); rintro e w6 ⟨rfl, hb⟩; refine ⟨_, rfl, ?_⟩; have n0_ := Aside0.mk (blk_below (g := gb732) (o := .cells #[.int .i64 a0_0, .int .i64 a0_1, .int .i64 a0_2, .int .u8 a0_3] 23 (0, 0)) (by (with_reducible repeat (first | refine qN ?_ _ | refine qD ?_ | refine qA ?_ _)); exact BK732.out) hb); have n1_ := Aside0.mk (below_step (by repeat (first | (with_reducible first | exact HB.out | apply pA | apply pN | apply pD | refine pS ?_ GE732.out) | exact HB.out)) hb); clear BK732; clear HB; have BK732 := n0_; have HB := n1_; clear n0_ n1_; (try clear hb); (try clear hb2); (try clear hk); (try clear hi)))
  (try simp only [Act.put, List.setIfInBounds_toArray, List.set_cons_zero, List.set_cons_succ])
  go_cut [23] (fun v23 wc => ∃ (kq : Nat) (x23_3 : Bool), v23 = .bool x23_3 ∧ Aside0 (portreevelaw12_AutoEnds.j0 kq a1 t733 x23_3 a0_0 a0_1 a0_2 a0_3 = some r) ∧ Aside0 (kq ≤ k) ∧ Aside0 (wc.heap[gb732]? = some (.cells #[.int .i64 a0_0, .int .i64 a0_1, .int .i64 a0_2, .int .u8 a0_3] 23 (0, 0))) ∧ Aside0 (Below w.heap.size w wc))
  case first =>
    have H := HC4.out
    clear HC4
    replace H := Option.bind_eq_some_iff.mp H
    obtain ⟨t734, A70, H⟩ := H
    replace H : (if t734 = true then (if a1 < 0 then (portreevelaw12_AutoEnds.j0 k a1 t733 true a0_0 a0_1 a0_2 a0_3) else (portreevelaw12_AutoEnds.j0 k a1 t733 (decide (a1 > 1000)) a0_0 a0_1 a0_2 a0_3)) else (portreevelaw12_AutoEnds.j0 k a1 t733 true a0_0 a0_1 a0_2 a0_3)) = some r := H
    have A7 := Aside0.mk A70
    clear A70
    by_cases c8 : t734 = true
    · subst c8
      have H1 : (if a1 < 0 then (portreevelaw12_AutoEnds.j0 k a1 t733 true a0_0 a0_1 a0_2 a0_3) else (portreevelaw12_AutoEnds.j0 k a1 t733 (decide (a1 > 1000)) a0_0 a0_1 a0_2 a0_3)) = some r := by rw [if_pos rfl] at H; exact H
      clear H
      have H := H1
      clear H1
      by_cases c9 : a1 < 0
      · rw [if_pos c9] at H
        have c9b0 : decide (a1 < 0) = true := decide_eq_true c9
        clear c9
        (first | rw [c9b0] | (simp only [i64_w, i32_w]; rw [c9b0]) | skip)
        have H' := Aside0.mk H
        clear H
        have hcz10_0 : w6.cell? ⟨gb732, 0, none⟩ = some (.int .i64 a0_0) := (blk_cell BK732.out 0).trans rfl
        have hcz10_1 : w6.cell? ⟨gb732, 1, none⟩ = some (.int .i64 a0_1) := (blk_cell BK732.out 1).trans rfl
        have hcz10_2 : w6.cell? ⟨gb732, 2, none⟩ = some (.int .i64 a0_2) := (blk_cell BK732.out 2).trans rfl
        have hcz10_3 : w6.cell? ⟨gb732, 3, none⟩ = some (.int .u8 a0_3) := (blk_cell BK732.out 3).trans rfl
        have hfz10_0 := blk_frozen BK732.out 0
        have hfz10_1 := blk_frozen BK732.out 1
        have hfz10_2 := blk_frozen BK732.out 2
        have hfz10_3 := blk_frozen BK732.out 3
        go_wp2_with (first | ((with_reducible refine gate_callee (f := 10) rfl ?_); refine goesL_ (some 14) rfl rfl Tryd.func10 (by kernel_rfl) rfl #[.agg #[.int .i64 a0_0, .int .i64 a0_1, .int .i64 a0_2, .int .u8 a0_3]] rfl (by (try simp only [List.map_toArray, List.map_cons, List.map_nil]); first | done | rfl | (simp only [List.length_drop, List.length_take]; rfl)) ?_; (with_reducible refine (portreeveref12_Right.calls k a0_0 a0_1 a0_2 a0_3 true _ A7.out).mono ?_); rintro e w11 ⟨rfl, hb⟩; refine ⟨_, rfl, ?_⟩; have n0_ := Aside0.mk (blk_below (g := gb732) (o := .cells #[.int .i64 a0_0, .int .i64 a0_1, .int .i64 a0_2, .int .u8 a0_3] 23 (0, 0)) (by (with_reducible repeat (first | refine qN ?_ _ | refine qD ?_ | refine qA ?_ _)); exact BK732.out) hb); have n1_ := Aside0.mk (below_step (by repeat (first | (with_reducible first | exact HB.out | apply pA | apply pN | apply pD | refine pS ?_ GE732.out) | exact HB.out)) hb); clear BK732; clear HB; have BK732 := n0_; have HB := n1_; clear n0_ n1_; (try clear hb); (try clear hb2); (try clear hk); (try clear hi)))
        go_meet
        case rel => exact ⟨_, (true), (by first | rfl | (simp; done) | (simp [*]; done)), H', ⟨by first | omega | exact Nat.le_refl _⟩, ⟨by (with_reducible repeat (first | refine qN ?_ _ | refine qD ?_ | refine qA ?_ _)); exact BK732.out⟩, ⟨by repeat (first | (with_reducible first | exact HB.out | apply pA | apply pN | apply pD | refine pS ?_ GE732.out) | exact HB.out)⟩⟩
      · rw [if_neg c9] at H
        have c9b0 : decide (a1 < 0) = false := decide_eq_false c9
        clear c9
        (first | rw [c9b0] | (simp only [i64_w, i32_w]; rw [c9b0]) | skip)
        have H' := Aside0.mk H
        clear H
        have hcz12_0 : w6.cell? ⟨gb732, 0, none⟩ = some (.int .i64 a0_0) := (blk_cell BK732.out 0).trans rfl
        have hcz12_1 : w6.cell? ⟨gb732, 1, none⟩ = some (.int .i64 a0_1) := (blk_cell BK732.out 1).trans rfl
        have hcz12_2 : w6.cell? ⟨gb732, 2, none⟩ = some (.int .i64 a0_2) := (blk_cell BK732.out 2).trans rfl
        have hcz12_3 : w6.cell? ⟨gb732, 3, none⟩ = some (.int .u8 a0_3) := (blk_cell BK732.out 3).trans rfl
        have hfz12_0 := blk_frozen BK732.out 0
        have hfz12_1 := blk_frozen BK732.out 1
        have hfz12_2 := blk_frozen BK732.out 2
        have hfz12_3 := blk_frozen BK732.out 3
        go_wp2_with (first | ((with_reducible refine gate_callee (f := 10) rfl ?_); refine goesL_ (some 14) rfl rfl Tryd.func10 (by kernel_rfl) rfl #[.agg #[.int .i64 a0_0, .int .i64 a0_1, .int .i64 a0_2, .int .u8 a0_3]] rfl (by (try simp only [List.map_toArray, List.map_cons, List.map_nil]); first | done | rfl | (simp only [List.length_drop, List.length_take]; rfl)) ?_; (with_reducible refine (portreeveref12_Right.calls k a0_0 a0_1 a0_2 a0_3 true _ A7.out).mono ?_); rintro e w13 ⟨rfl, hb⟩; refine ⟨_, rfl, ?_⟩; have n0_ := Aside0.mk (blk_below (g := gb732) (o := .cells #[.int .i64 a0_0, .int .i64 a0_1, .int .i64 a0_2, .int .u8 a0_3] 23 (0, 0)) (by (with_reducible repeat (first | refine qN ?_ _ | refine qD ?_ | refine qA ?_ _)); exact BK732.out) hb); have n1_ := Aside0.mk (below_step (by repeat (first | (with_reducible first | exact HB.out | apply pA | apply pN | apply pD | refine pS ?_ GE732.out) | exact HB.out)) hb); clear BK732; clear HB; have BK732 := n0_; have HB := n1_; clear n0_ n1_; (try clear hb); (try clear hb2); (try clear hk); (try clear hi)))
        go_meet
        case rel => exact ⟨_, (decide (a1 > 1000)), (by first | rfl | (simp; done) | (simp [*]; done)), H', ⟨by first | omega | exact Nat.le_refl _⟩, ⟨by (with_reducible repeat (first | refine qN ?_ _ | refine qD ?_ | refine qA ?_ _)); exact BK732.out⟩, ⟨by repeat (first | (with_reducible first | exact HB.out | apply pA | apply pN | apply pD | refine pS ?_ GE732.out) | exact HB.out)⟩⟩
    · replace c8 := Bool.eq_false_iff.mpr c8
      subst c8
      have H1 : (portreevelaw12_AutoEnds.j0 k a1 t733 true a0_0 a0_1 a0_2 a0_3) = some r := by rw [if_neg (show ¬ (false = true) by decide)] at H; exact H
      clear H
      have H := H1
      clear H1
      have H' := Aside0.mk H
      clear H
      have hcz14_0 : w6.cell? ⟨gb732, 0, none⟩ = some (.int .i64 a0_0) := (blk_cell BK732.out 0).trans rfl
      have hcz14_1 : w6.cell? ⟨gb732, 1, none⟩ = some (.int .i64 a0_1) := (blk_cell BK732.out 1).trans rfl
      have hcz14_2 : w6.cell? ⟨gb732, 2, none⟩ = some (.int .i64 a0_2) := (blk_cell BK732.out 2).trans rfl
      have hcz14_3 : w6.cell? ⟨gb732, 3, none⟩ = some (.int .u8 a0_3) := (blk_cell BK732.out 3).trans rfl
      have hfz14_0 := blk_frozen BK732.out 0
      have hfz14_1 := blk_frozen BK732.out 1
      have hfz14_2 := blk_frozen BK732.out 2
      have hfz14_3 := blk_frozen BK732.out 3
      go_wp2_with (first | ((with_reducible refine gate_callee (f := 10) rfl ?_); refine goesL_ (some 14) rfl rfl Tryd.func10 (by kernel_rfl) rfl #[.agg #[.int .i64 a0_0, .int .i64 a0_1, .int .i64 a0_2, .int .u8 a0_3]] rfl (by (try simp only [List.map_toArray, List.map_cons, List.map_nil]); first | done | rfl | (simp only [List.length_drop, List.length_take]; rfl)) ?_; (with_reducible refine (portreeveref12_Right.calls k a0_0 a0_1 a0_2 a0_3 false _ A7.out).mono ?_); rintro e w15 ⟨rfl, hb⟩; refine ⟨_, rfl, ?_⟩; have n0_ := Aside0.mk (blk_below (g := gb732) (o := .cells #[.int .i64 a0_0, .int .i64 a0_1, .int .i64 a0_2, .int .u8 a0_3] 23 (0, 0)) (by (with_reducible repeat (first | refine qN ?_ _ | refine qD ?_ | refine qA ?_ _)); exact BK732.out) hb); have n1_ := Aside0.mk (below_step (by repeat (first | (with_reducible first | exact HB.out | apply pA | apply pN | apply pD | refine pS ?_ GE732.out) | exact HB.out)) hb); clear BK732; clear HB; have BK732 := n0_; have HB := n1_; clear n0_ n1_; (try clear hb); (try clear hb2); (try clear hk); (try clear hi)))
      go_meet
      case rel => exact ⟨_, (true), (by first | rfl | (simp; done) | (simp [*]; done)), H', ⟨by first | omega | exact Nat.le_refl _⟩, ⟨by (with_reducible repeat (first | refine qN ?_ _ | refine qD ?_ | refine qA ?_ _)); exact BK732.out⟩, ⟨by repeat (first | (with_reducible first | exact HB.out | apply pA | apply pN | apply pD | refine pS ?_ GE732.out) | exact HB.out)⟩⟩
  case rest =>
    clear HC4
    try clear c1
    try clear p2
    try clear c5
    try clear c8
    try clear c9
    try clear c9b0
    try clear c10
    try clear hcz10_0
    try clear hcz10_1
    try clear hcz10_2
    try clear hcz10_3
    try clear hcz12_0
    try clear hcz12_1
    try clear hcz12_2
    try clear hcz12_3
    try clear hcz14_0
    try clear hcz14_1
    try clear hcz14_2
    try clear hcz14_3
    try clear hfz10_0
    try clear hfz10_1
    try clear hfz10_2
    try clear hfz10_3
    try clear hfz12_0
    try clear hfz12_1
    try clear hfz12_2
    try clear hfz12_3
    try clear hfz14_0
    try clear hfz14_1
    try clear hfz14_2
    try clear hfz14_3
    obtain ⟨kq, x23_3, rfl, HA, HJ3, BK732, HB⟩ := hcut
    cases kq with
    | zero => exact absurd HA.out (by simp [portreevelaw12_AutoEnds.j0])
    | succ kj3 =>
      have H := HA.out
      clear HA
      simp only [portreevelaw12_AutoEnds.j0] at H
      by_cases c16 : x23_3 = true
      · subst c16
        have H1 : (some t733) = some r := by rw [if_pos rfl] at H; exact H
        clear H
        have H := H1
        clear H1
        clear hlaw_
        obtain rfl := Option.some.inj H
        go_wp2
        go_ret
        exact ⟨by first | rfl | (simp [errW_none, errW_some] <;> rfl) | (simp [*, errW_none, errW_some] <;> rfl), by repeat (first | (with_reducible first | exact HB.out | apply pA | apply pN | apply pD | refine pS ?_ GE732.out) | exact HB.out)⟩
      · replace c16 := Bool.eq_false_iff.mpr c16
        subst c16
        have H1 : (portreevelaw12_AutoEnds.l0 kj3 a1 t733 0 (wrap64 (3 - a0_2)) 0 a0_0 a0_1 a0_2 a0_3 a0_0 a0_1 a0_2 a0_3) = some r := by rw [if_neg (show ¬ (false = true) by decide)] at H; exact H
        clear H
        have H := H1
        clear H1
        have H' := Aside0.mk H
        clear H
        have hcz17_0 : wc.cell? ⟨gb732, 0, none⟩ = some (.int .i64 a0_0) := (blk_cell BK732.out 0).trans rfl
        have hcz17_1 : wc.cell? ⟨gb732, 1, none⟩ = some (.int .i64 a0_1) := (blk_cell BK732.out 1).trans rfl
        have hcz17_2 : wc.cell? ⟨gb732, 2, none⟩ = some (.int .i64 a0_2) := (blk_cell BK732.out 2).trans rfl
        have hcz17_3 : wc.cell? ⟨gb732, 3, none⟩ = some (.int .u8 a0_3) := (blk_cell BK732.out 3).trans rfl
        have hfz17_0 := blk_frozen BK732.out 0
        have hfz17_1 := blk_frozen BK732.out 1
        have hfz17_2 := blk_frozen BK732.out 2
        have hfz17_3 := blk_frozen BK732.out 3
        go_wp2_with (first | ((with_reducible refine gate_dst (N := 8) rfl ?_); refine box_event ?hg (N := 8) ?hd (cs := #[.int .i64 0, .int .i64 0, .int .i64 0, .int .u8 0]) (t := 23) ?hr ?_; (case hd => rfl); (case hg => rfl); (case hr => first | (go_simp; done) | (go_simp; rfl)); intro gb735 hg w18 hbox hb; have n0_ := Aside0.mk (blk_below (g := gb732) (o := .cells #[.int .i64 a0_0, .int .i64 a0_1, .int .i64 a0_2, .int .u8 a0_3] 23 (0, 0)) (by (with_reducible repeat (first | refine qN ?_ _ | refine qD ?_ | refine qA ?_ _)); exact BK732.out) hb); have n1_ := Aside0.mk (below_step (by repeat (first | (with_reducible first | exact HB.out | apply pA | apply pN | apply pD | refine pS ?_ GE732.out) | exact HB.out)) hb); have n2_ := Aside0.mk (hbox); have n3_ := Aside0.mk ((by rw [hg]; exact (below_size (by repeat (first | (with_reducible first | exact HB.out | apply pA | apply pN | apply pD | refine pS ?_ GE732.out) | exact HB.out))) : w.heap.size ≤ gb735)); have n4_ := Aside0.mk ((by rw [hg]; exact (below_size (by repeat (first | (with_reducible first | exact HB.out | apply pA | apply pN | apply pD | refine pS ?_ GE732.out) | exact HB.out))) : w.heap.size ≤ gb735)); have n5_ := Aside0.mk ((by rw [hg]; exact Nat.ne_of_lt (blk_lt (g := gb732) (o := .cells #[.int .i64 a0_0, .int .i64 a0_1, .int .i64 a0_2, .int .u8 a0_3] 23 (0, 0)) (by (with_reducible repeat (first | refine qN ?_ _ | refine qD ?_ | refine qA ?_ _)); exact BK732.out)) : gb732 ≠ gb735)); have n6_ := Aside0.mk ((by rw [hg]; exact Nat.ne_of_gt (blk_lt (g := gb732) (o := .cells #[.int .i64 a0_0, .int .i64 a0_1, .int .i64 a0_2, .int .u8 a0_3] 23 (0, 0)) (by (with_reducible repeat (first | refine qN ?_ _ | refine qD ?_ | refine qA ?_ _)); exact BK732.out)) : gb735 ≠ gb732)); clear BK732; clear HB; have BK732 := n0_; have HB := n1_; have BK735 := n2_; have GW735 := n3_; have GE735 := n4_; have NB732_735 := n5_; have NB735_732 := n6_; clear n0_ n1_ n2_ n3_ n4_ n5_ n6_; clear hb hbox hg; have hnb19 := NB735_732.out; have hnc19 := NB732_735.out; have hcz20_0 : w18.cell? ⟨gb735, 0, none⟩ = some (.int .i64 0) := (blk_cell BK735.out 0).trans rfl; have hcz20_1 : w18.cell? ⟨gb735, 1, none⟩ = some (.int .i64 0) := (blk_cell BK735.out 1).trans rfl; have hcz20_2 : w18.cell? ⟨gb735, 2, none⟩ = some (.int .i64 0) := (blk_cell BK735.out 2).trans rfl; have hcz20_3 : w18.cell? ⟨gb735, 3, none⟩ = some (.int .u8 0) := (blk_cell BK735.out 3).trans rfl; have hfz20_0 := blk_frozen BK735.out 0; have hfz20_1 := blk_frozen BK735.out 1; have hfz20_2 := blk_frozen BK735.out 2; have hfz20_3 := blk_frozen BK735.out 3))
        go_loopg [6, 7, 9] kj3 (fun kq v6 v7 v9 w' => ∃ (x6_2 : Int) (x7_2 : Int) (x9_2 : Int) (x736000_2 : Int) (x736001_2 : Int) (x736002_2 : Int) (x736003_2 : Int), v6 = .int .i64 x6_2 ∧ v7 = .int .i64 x7_2 ∧ v9 = .int .i64 x9_2 ∧ Aside0 (portreevelaw12_AutoEnds.l0 kq a1 t733 x6_2 x7_2 x9_2 a0_0 a0_1 a0_2 a0_3 x736000_2 x736001_2 x736002_2 x736003_2 = some r) ∧ Aside0 (kq ≤ kj3) ∧ Aside0 (w'.heap[gb732]? = some (.cells #[.int .i64 a0_0, .int .i64 a0_1, .int .i64 a0_2, .int .u8 a0_3] 23 (0, 0))) ∧ Aside0 (w'.heap[gb735]? = some (.cells #[.int .i64 x736000_2, .int .i64 x736001_2, .int .i64 x736002_2, .int .u8 x736003_2] 23 (0, 0))) ∧ Aside0 (Below w.heap.size w w'))
        case atStart => exact ⟨(0), (wrap64 (3 - a0_2)), (0), (a0_0), (a0_1), (a0_2), (a0_3), (by first | rfl | (simp; done) | (simp [*]; done)), (by first | rfl | (simp; done) | (simp [*]; done)), (by first | rfl | (simp; done) | (simp [*]; done)), H', ⟨Nat.le_refl _⟩, ⟨by (with_reducible repeat (first | refine qN ?_ _ | refine qD ?_ | refine qA ?_ _)); refine blk_far ?_ NB732_735.out _; (with_reducible repeat (first | refine qN ?_ _ | refine qD ?_ | refine qA ?_ _)); refine blk_far ?_ NB732_735.out _; (with_reducible repeat (first | refine qN ?_ _ | refine qD ?_ | refine qA ?_ _)); refine blk_far ?_ NB732_735.out _; (with_reducible repeat (first | refine qN ?_ _ | refine qD ?_ | refine qA ?_ _)); refine blk_far ?_ NB732_735.out _; (with_reducible repeat (first | refine qN ?_ _ | refine qD ?_ | refine qA ?_ _)); exact BK732.out⟩, ⟨by (with_reducible repeat (first | refine qN ?_ _ | refine qD ?_ | refine qA ?_ _)); refine blk_put (cs := #[.int .i64 a0_0, .int .i64 a0_1, .int .i64 a0_2, .int .u8 0]) ?_ 3 _ rfl; (with_reducible repeat (first | refine qN ?_ _ | refine qD ?_ | refine qA ?_ _)); refine blk_put (cs := #[.int .i64 a0_0, .int .i64 a0_1, .int .i64 0, .int .u8 0]) ?_ 2 _ rfl; (with_reducible repeat (first | refine qN ?_ _ | refine qD ?_ | refine qA ?_ _)); refine blk_put (cs := #[.int .i64 a0_0, .int .i64 0, .int .i64 0, .int .u8 0]) ?_ 1 _ rfl; (with_reducible repeat (first | refine qN ?_ _ | refine qD ?_ | refine qA ?_ _)); refine blk_put (cs := #[.int .i64 0, .int .i64 0, .int .i64 0, .int .u8 0]) ?_ 0 _ rfl; (with_reducible repeat (first | refine qN ?_ _ | refine qD ?_ | refine qA ?_ _)); exact BK735.out⟩, ⟨by repeat (first | (with_reducible first | exact HB.out | apply pA | apply pN | apply pD | refine pS ?_ GE732.out | refine pS ?_ GE735.out) | exact HB.out)⟩⟩
        case round =>
          clear H'
          try clear c1
          try clear p2
          try clear c5
          try clear p6
          try clear c8
          try clear c9
          try clear c9b0
          try clear c10
          try clear c16
          try clear c19
          try clear hcz10_0
          try clear hcz10_1
          try clear hcz10_2
          try clear hcz10_3
          try clear hcz12_0
          try clear hcz12_1
          try clear hcz12_2
          try clear hcz12_3
          try clear hcz14_0
          try clear hcz14_1
          try clear hcz14_2
          try clear hcz14_3
          try clear hcz17_0
          try clear hcz17_1
          try clear hcz17_2
          try clear hcz17_3
          try clear hcz20_0
          try clear hcz20_1
          try clear hcz20_2
          try clear hcz20_3
          try clear hfz10_0
          try clear hfz10_1
          try clear hfz10_2
          try clear hfz10_3
          try clear hfz12_0
          try clear hfz12_1
          try clear hfz12_2
          try clear hfz12_3
          try clear hfz14_0
          try clear hfz14_1
          try clear hfz14_2
          try clear hfz14_3
          try clear hfz17_0
          try clear hfz17_1
          try clear hfz17_2
          try clear hfz17_3
          try clear hfz20_0
          try clear hfz20_1
          try clear hfz20_2
          try clear hfz20_3
          try clear p2
          obtain ⟨x6_2, x7_2, x9_2, x736000_2, x736001_2, x736002_2, x736003_2, rfl, rfl, rfl, HA, HK2, BK732, BK735, HB⟩ := hrel
          cases gk with
          | zero => exact absurd HA.out (by simp [portreevelaw12_AutoEnds.l0])
          | succ k2 =>
            have H := HA.out
            clear HA
            simp only [portreevelaw12_AutoEnds.l0] at H
            replace H := Option.bind_eq_some_iff.mp H
            obtain ⟨t736, A210, H⟩ := H
            replace H : (if x9_2 < t736 then ((auto_Tick.f x736000_2 x736001_2 x736002_2 x736003_2).bind fun bt737 => (if (bt737.2.2.2.2.length : Int) > 0 then (if (wrap64 (x7_2 + 1)) = 3 then (portreevelaw12_AutoEnds.j2 k2 a1 t733 x6_2 0 x9_2 bt737.2.2.2.2 a0_0 a0_1 a0_2 a0_3 bt737.1 bt737.2.1 bt737.2.2.1 bt737.2.2.2.1) else (some false)) else (portreevelaw12_AutoEnds.j2 k2 a1 t733 x6_2 (wrap64 (x7_2 + 1)) x9_2 bt737.2.2.2.2 a0_0 a0_1 a0_2 a0_3 bt737.1 bt737.2.1 bt737.2.2.1 bt737.2.2.2.1))) else ((portreeveref11_Timed.f a0_0).bind fun t747 => (if t747 = true then (if x6_2 = a0_1 then (if x736000_2 = 2 then (portreevelaw12_AutoEnds.j4 k2 a1 t733 x6_2 false a0_0 a0_1 a0_2 a0_3 x736000_2 x736001_2 x736002_2 x736003_2) else (portreevelaw12_AutoEnds.j4 k2 a1 t733 x6_2 (x736000_2 != 3) a0_0 a0_1 a0_2 a0_3 x736000_2 x736001_2 x736002_2 x736003_2)) else (portreevelaw12_AutoEnds.j4 k2 a1 t733 x6_2 true a0_0 a0_1 a0_2 a0_3 x736000_2 x736001_2 x736002_2 x736003_2)) else (portreevelaw12_AutoEnds.j4 k2 a1 t733 x6_2 false a0_0 a0_1 a0_2 a0_3 x736000_2 x736001_2 x736002_2 x736003_2)))) = some r := H
            have A21 := Aside0.mk A210
            clear A210
            by_cases c22 : x9_2 < t736
            · rw [if_pos c22] at H
              have c22b0 : decide (x9_2 < t736) = true := decide_eq_true c22
              clear c22
              replace H := Option.bind_eq_some_iff.mp H
              obtain ⟨⟨t737, t738, t739, t740, t741⟩, A230, H⟩ := H
              replace H : (if (t741.length : Int) > 0 then (if (wrap64 (x7_2 + 1)) = 3 then (portreevelaw12_AutoEnds.j2 k2 a1 t733 x6_2 0 x9_2 t741 a0_0 a0_1 a0_2 a0_3 t737 t738 t739 t740) else (some false)) else (portreevelaw12_AutoEnds.j2 k2 a1 t733 x6_2 (wrap64 (x7_2 + 1)) x9_2 t741 a0_0 a0_1 a0_2 a0_3 t737 t738 t739 t740)) = some r := H
              have A23 := Aside0.mk A230
              clear A230
              have HC24 := Aside0.mk H
              clear H
              go_upto_if 43 with (first | ((with_reducible refine gate_callee (f := 12) rfl ?_); refine goesL_ (some 30) rfl rfl Tryd.func12 (by kernel_rfl) rfl #[] rfl (by (try simp only [List.map_toArray, List.map_cons, List.map_nil]); first | done | rfl | (simp only [List.length_drop, List.length_take]; rfl)) ?_; (with_reducible refine (auto_Bound.calls  t736 _ A21.out).mono ?_); rintro e w' ⟨rfl, ⟨nd, rfl⟩⟩; refine ⟨_, rfl, ?_⟩; (try (rw [drewN_self wr]; generalize hq_ : World.drewN wr _ = wr; have n0_ : Aside0 (wr.heap[gb732]? = some (.cells #[.int .i64 a0_0, .int .i64 a0_1, .int .i64 a0_2, .int .u8 a0_3] 23 (0, 0))) := ⟨by rw [← hq_]; exact (by (with_reducible repeat (first | refine qN ?_ _ | refine qD ?_ | refine qA ?_ _)); exact BK732.out)⟩; have n1_ : Aside0 (wr.heap[gb735]? = some (.cells #[.int .i64 x736000_2, .int .i64 x736001_2, .int .i64 x736002_2, .int .u8 x736003_2] 23 (0, 0))) := ⟨by rw [← hq_]; exact (by (with_reducible repeat (first | refine qN ?_ _ | refine qD ?_ | refine qA ?_ _)); exact BK735.out)⟩; have n2_ : Aside0 (Below w.heap.size w wr) := ⟨by rw [← hq_]; exact (by repeat (first | (with_reducible first | exact HB.out | apply pA | apply pN | apply pD | refine pS ?_ GE732.out | refine pS ?_ GE735.out) | exact HB.out))⟩; clear BK732 BK735 HB hq_; have BK732 := n0_; have BK735 := n1_; have HB := n2_; clear n0_ n1_ n2_)); have hnb25 := NB735_732.out; have hnc25 := NB732_735.out; have hcz26_0 : wr.cell? ⟨gb735, 0, none⟩ = some (.int .i64 x736000_2) := (blk_cell BK735.out 0).trans rfl; have hcz26_1 : wr.cell? ⟨gb735, 1, none⟩ = some (.int .i64 x736001_2) := (blk_cell BK735.out 1).trans rfl; have hcz26_2 : wr.cell? ⟨gb735, 2, none⟩ = some (.int .i64 x736002_2) := (blk_cell BK735.out 2).trans rfl; have hcz26_3 : wr.cell? ⟨gb735, 3, none⟩ = some (.int .u8 x736003_2) := (blk_cell BK735.out 3).trans rfl; have hfz26_0 := blk_frozen BK735.out 0; have hfz26_1 := blk_frozen BK735.out 1; have hfz26_2 := blk_frozen BK735.out 2; have hfz26_3 := blk_frozen BK735.out 3) | ((with_reducible refine gate_callee (f := 15) rfl ?_); refine goesL_ (some 36) rfl rfl Tryd.func15 (by kernel_rfl) rfl #[.agg #[.int .i64 x736000_2, .int .i64 x736001_2, .int .i64 x736002_2, .int .u8 x736003_2]] rfl (by (try simp only [List.map_toArray, List.map_cons, List.map_nil]); first | done | rfl | (simp only [List.length_drop, List.length_take]; rfl)) ?_; (with_reducible refine (auto_Tick.calls x736000_2 x736001_2 x736002_2 x736003_2 t737 t738 t739 t740 t741 _ ?side1 A23.out).mono ?_); (case side1 => exact (HGL.out.below (by repeat (first | (with_reducible first | exact HB.out | apply pA | apply pN | apply pD | refine pS ?_ GE732.out | refine pS ?_ GE735.out) | exact HB.out)))); rintro e w27 ⟨v742, rfl, ho0, hb⟩; refine ⟨_, rfl, ?_⟩; have n0_ := Aside0.mk (Kd.R_lower ho0 (below_size (by repeat (first | (with_reducible first | exact HB.out | apply pA | apply pN | apply pD | refine pS ?_ GE732.out | refine pS ?_ GE735.out) | exact HB.out)))); have n1_ := Aside0.mk (blk_below (g := gb732) (o := .cells #[.int .i64 a0_0, .int .i64 a0_1, .int .i64 a0_2, .int .u8 a0_3] 23 (0, 0)) (by (with_reducible repeat (first | refine qN ?_ _ | refine qD ?_ | refine qA ?_ _)); exact BK732.out) hb); have n2_ := Aside0.mk (blk_below (g := gb735) (o := .cells #[.int .i64 x736000_2, .int .i64 x736001_2, .int .i64 x736002_2, .int .u8 x736003_2] 23 (0, 0)) (by (with_reducible repeat (first | refine qN ?_ _ | refine qD ?_ | refine qA ?_ _)); exact BK735.out) hb); have n3_ := Aside0.mk (below_step (by repeat (first | (with_reducible first | exact HB.out | apply pA | apply pN | apply pD | refine pS ?_ GE732.out | refine pS ?_ GE735.out) | exact HB.out)) hb); clear BK732; clear BK735; clear HB; have HO743 := n0_; have BK732 := n1_; have BK735 := n2_; have HB := n3_; clear n0_ n1_ n2_ n3_; (try clear hb); (try clear hb2); (try clear hk); (try clear hi); (try clear ho0)) | ((with_reducible refine gate_dst (N := 10) rfl ?_); refine box_event ?hg (N := 10) ?hd (cs := #[.int .i64 0, .int .i64 0, .int .i64 0, .int .u8 0]) (t := 23) ?hr ?_; (case hd => rfl); (case hg => rfl); (case hr => first | (go_simp; done) | (go_simp; rfl)); intro gb744 hg w28 hbox hb; have n0_ := Aside0.mk (Kd.R_below (by (with_reducible repeat (first | apply Kd.R_alloc | apply Kd.R_drewN | apply Kd.R_drew)); exact HO743.out) hb); have n1_ := Aside0.mk (blk_below (g := gb732) (o := .cells #[.int .i64 a0_0, .int .i64 a0_1, .int .i64 a0_2, .int .u8 a0_3] 23 (0, 0)) (by (with_reducible repeat (first | refine qN ?_ _ | refine qD ?_ | refine qA ?_ _)); exact BK732.out) hb); have n2_ := Aside0.mk (blk_below (g := gb735) (o := .cells #[.int .i64 x736000_2, .int .i64 x736001_2, .int .i64 x736002_2, .int .u8 x736003_2] 23 (0, 0)) (by (with_reducible repeat (first | refine qN ?_ _ | refine qD ?_ | refine qA ?_ _)); exact BK735.out) hb); have n3_ := Aside0.mk (below_step (by repeat (first | (with_reducible first | exact HB.out | apply pA | apply pN | apply pD | refine pS ?_ GE732.out | refine pS ?_ GE735.out) | exact HB.out)) hb); have n4_ := Aside0.mk (hbox); have n5_ := Aside0.mk ((by rw [hg]; exact (below_size (by repeat (first | (with_reducible first | exact HB.out | apply pA | apply pN | apply pD | refine pS ?_ GE732.out | refine pS ?_ GE735.out) | exact HB.out))) : w.heap.size ≤ gb744)); have n6_ := Aside0.mk ((by rw [hg]; exact (below_size (by repeat (first | (with_reducible first | exact HB.out | apply pA | apply pN | apply pD | refine pS ?_ GE732.out | refine pS ?_ GE735.out) | exact HB.out))) : w.heap.size ≤ gb744)); have n7_ := Aside0.mk ((by rw [hg]; exact Nat.ne_of_lt (blk_lt (g := gb732) (o := .cells #[.int .i64 a0_0, .int .i64 a0_1, .int .i64 a0_2, .int .u8 a0_3] 23 (0, 0)) (by (with_reducible repeat (first | refine qN ?_ _ | refine qD ?_ | refine qA ?_ _)); exact BK732.out)) : gb732 ≠ gb744)); have n8_ := Aside0.mk ((by rw [hg]; exact Nat.ne_of_gt (blk_lt (g := gb732) (o := .cells #[.int .i64 a0_0, .int .i64 a0_1, .int .i64 a0_2, .int .u8 a0_3] 23 (0, 0)) (by (with_reducible repeat (first | refine qN ?_ _ | refine qD ?_ | refine qA ?_ _)); exact BK732.out)) : gb744 ≠ gb732)); have n9_ := Aside0.mk ((by rw [hg]; exact Nat.ne_of_lt (blk_lt (g := gb735) (o := .cells #[.int .i64 x736000_2, .int .i64 x736001_2, .int .i64 x736002_2, .int .u8 x736003_2] 23 (0, 0)) (by (with_reducible repeat (first | refine qN ?_ _ | refine qD ?_ | refine qA ?_ _)); exact BK735.out)) : gb735 ≠ gb744)); have n10_ := Aside0.mk ((by rw [hg]; exact Nat.ne_of_gt (blk_lt (g := gb735) (o := .cells #[.int .i64 x736000_2, .int .i64 x736001_2, .int .i64 x736002_2, .int .u8 x736003_2] 23 (0, 0)) (by (with_reducible repeat (first | refine qN ?_ _ | refine qD ?_ | refine qA ?_ _)); exact BK735.out)) : gb744 ≠ gb735)); clear HO743; clear BK732; clear BK735; clear HB; have HO743 := n0_; have BK732 := n1_; have BK735 := n2_; have HB := n3_; have BK744 := n4_; have GW744 := n5_; have GE744 := n6_; have NB732_744 := n7_; have NB744_732 := n8_; have NB735_744 := n9_; have NB744_735 := n10_; clear n0_ n1_ n2_ n3_ n4_ n5_ n6_ n7_ n8_ n9_ n10_; clear hb hbox hg; have hnb29 := NB744_732.out; have hnc29 := NB732_744.out; have hnb30 := NB744_735.out; have hnc30 := NB735_744.out; have hcz31_0 : w28.cell? ⟨gb744, 0, none⟩ = some (.int .i64 0) := (blk_cell BK744.out 0).trans rfl; have hcz31_1 : w28.cell? ⟨gb744, 1, none⟩ = some (.int .i64 0) := (blk_cell BK744.out 1).trans rfl; have hcz31_2 : w28.cell? ⟨gb744, 2, none⟩ = some (.int .i64 0) := (blk_cell BK744.out 2).trans rfl; have hcz31_3 : w28.cell? ⟨gb744, 3, none⟩ = some (.int .u8 0) := (blk_cell BK744.out 3).trans rfl; have hfz31_0 := blk_frozen BK744.out 0; have hfz31_1 := blk_frozen BK744.out 1; have hfz31_2 := blk_frozen BK744.out 2; have hfz31_3 := blk_frozen BK744.out 3; obtain ⟨Ao32, co32, eo32⟩ := Kd.R_slice HO743.out; subst eo32))
              (try simp only [Act.put, List.setIfInBounds_toArray, List.set_cons_zero, List.set_cons_succ])
              go_cut [7] (fun v7 wc => ∃ (kq : Nat) (x7_23 : Int), v7 = .int .i64 x7_23 ∧ Aside0 (portreevelaw12_AutoEnds.j2 kq a1 t733 x6_2 x7_23 x9_2 t741 a0_0 a0_1 a0_2 a0_3 t737 t738 t739 t740 = some r) ∧ Aside0 (kq ≤ k2) ∧ Aside0 (Kd.R (Kd.int .i64) 3 wc w.heap.size (fun _ => True) (.slice Ao32 t741.length co32) t741) ∧ Aside0 (wc.heap[gb732]? = some (.cells #[.int .i64 a0_0, .int .i64 a0_1, .int .i64 a0_2, .int .u8 a0_3] 23 (0, 0))) ∧ Aside0 (wc.heap[gb735]? = some (.cells #[.int .i64 x736000_2, .int .i64 x736001_2, .int .i64 x736002_2, .int .u8 x736003_2] 23 (0, 0))) ∧ Aside0 (wc.heap[gb744]? = some (.cells #[.int .i64 t737, .int .i64 t738, .int .i64 t739, .int .u8 t740] 23 (0, 0))) ∧ Aside0 (Below w.heap.size w wc))
              case first =>
                have H := HC24.out
                clear HC24
                by_cases c33 : (t741.length : Int) > 0
                · rw [if_pos c33] at H
                  have c33b0 : decide (0 < (t741.length : Int)) = true := decide_eq_true c33
                  have c33b1 : decide (0 < t741.length) = true := decide_eq_true (by omega)
                  clear c33
                  (first | rw [c33b0] | (simp only [i64_w, i32_w]; rw [c33b0])  | rw [c33b1] | skip)
                  by_cases c34 : (wrap64 (x7_2 + 1)) = 3
                  · rw [if_pos c34] at H
                    have c34b0 : ((wrap64 (x7_2 + 1)) == 3) = true := beq_iff_eq.mpr c34
                    have c34b1 : ((wrap64 (x7_2 + 1)) != 3) = false := bne_eq_false_iff_eq.mpr c34
                    clear c34
                    have H' := Aside0.mk H
                    clear H
                    go_wp2
                    go_meet
                    case rel => exact ⟨_, (0), (by first | rfl | (simp; done) | (simp [*]; done)), H', ⟨by have := HJ3.out; have := HK2.out; first | omega | exact Nat.le_refl _⟩, ⟨by (with_reducible repeat (first | apply Kd.R_alloc | apply Kd.R_drewN | apply Kd.R_drew)); exact Kd.R_mono (Kd.R_far (p := ⟨gb744, 3, none⟩) (Kd.R_far (p := ⟨gb744, 2, none⟩) (Kd.R_far (p := ⟨gb744, 1, none⟩) (Kd.R_far (p := ⟨gb744, 0, none⟩) (Kd.R_types HO743.out BK744.out (by decide)) (fun _ hk => hk.2) (.int .i64 t737)) (fun _ hk => hk.2) (.int .i64 t738)) (fun _ hk => hk.2) (.int .i64 t739)) (fun _ hk => hk.2) (.int .u8 t740)) (fun _ hk => trivial)⟩, ⟨by (with_reducible repeat (first | refine qN ?_ _ | refine qD ?_ | refine qA ?_ _)); refine blk_far ?_ NB732_744.out _; (with_reducible repeat (first | refine qN ?_ _ | refine qD ?_ | refine qA ?_ _)); refine blk_far ?_ NB732_744.out _; (with_reducible repeat (first | refine qN ?_ _ | refine qD ?_ | refine qA ?_ _)); refine blk_far ?_ NB732_744.out _; (with_reducible repeat (first | refine qN ?_ _ | refine qD ?_ | refine qA ?_ _)); refine blk_far ?_ NB732_744.out _; (with_reducible repeat (first | refine qN ?_ _ | refine qD ?_ | refine qA ?_ _)); exact BK732.out⟩, ⟨by (with_reducible repeat (first | refine qN ?_ _ | refine qD ?_ | refine qA ?_ _)); refine blk_far ?_ NB735_744.out _; (with_reducible repeat (first | refine qN ?_ _ | refine qD ?_ | refine qA ?_ _)); refine blk_far ?_ NB735_744.out _; (with_reducible repeat (first | refine qN ?_ _ | refine qD ?_ | refine qA ?_ _)); refine blk_far ?_ NB735_744.out _; (with_reducible repeat (first | refine qN ?_ _ | refine qD ?_ | refine qA ?_ _)); refine blk_far ?_ NB735_744.out _; (with_reducible repeat (first | refine qN ?_ _ | refine qD ?_ | refine qA ?_ _)); exact BK735.out⟩, ⟨by (with_reducible repeat (first | refine qN ?_ _ | refine qD ?_ | refine qA ?_ _)); refine blk_put (cs := #[.int .i64 t737, .int .i64 t738, .int .i64 t739, .int .u8 0]) ?_ 3 _ rfl; (with_reducible repeat (first | refine qN ?_ _ | refine qD ?_ | refine qA ?_ _)); refine blk_put (cs := #[.int .i64 t737, .int .i64 t738, .int .i64 0, .int .u8 0]) ?_ 2 _ rfl; (with_reducible repeat (first | refine qN ?_ _ | refine qD ?_ | refine qA ?_ _)); refine blk_put (cs := #[.int .i64 t737, .int .i64 0, .int .i64 0, .int .u8 0]) ?_ 1 _ rfl; (with_reducible repeat (first | refine qN ?_ _ | refine qD ?_ | refine qA ?_ _)); refine blk_put (cs := #[.int .i64 0, .int .i64 0, .int .i64 0, .int .u8 0]) ?_ 0 _ rfl; (with_reducible repeat (first | refine qN ?_ _ | refine qD ?_ | refine qA ?_ _)); exact BK744.out⟩, ⟨by repeat (first | (with_reducible first | exact HB.out | apply pA | apply pN | apply pD | refine pS ?_ GE732.out | refine pS ?_ GE735.out | refine pS ?_ GE744.out) | exact HB.out)⟩⟩
                  · rw [if_neg c34] at H
                    have c34b0 : ((wrap64 (x7_2 + 1)) == 3) = false := beq_eq_false_iff_ne.mpr c34
                    have c34b1 : ((wrap64 (x7_2 + 1)) != 3) = true := bne_iff_ne.mpr c34
                    exact absurd ((Option.some.inj H).trans hlaw_.out) (by decide)
                · rw [if_neg c33] at H
                  have c33b0 : decide (0 < (t741.length : Int)) = false := decide_eq_false c33
                  have c33b1 : decide (0 < t741.length) = false := decide_eq_false (by omega)
                  clear c33
                  (first | rw [c33b0] | (simp only [i64_w, i32_w]; rw [c33b0])  | rw [c33b1] | skip)
                  have H' := Aside0.mk H
                  clear H
                  go_wp2
                  go_meet
                  case rel => exact ⟨_, (wrap64 (x7_2 + 1)), (by first | rfl | (simp; done) | (simp [*]; done)), H', ⟨by have := HJ3.out; have := HK2.out; first | omega | exact Nat.le_refl _⟩, ⟨by (with_reducible repeat (first | apply Kd.R_alloc | apply Kd.R_drewN | apply Kd.R_drew)); exact Kd.R_mono (Kd.R_far (p := ⟨gb744, 3, none⟩) (Kd.R_far (p := ⟨gb744, 2, none⟩) (Kd.R_far (p := ⟨gb744, 1, none⟩) (Kd.R_far (p := ⟨gb744, 0, none⟩) (Kd.R_types HO743.out BK744.out (by decide)) (fun _ hk => hk.2) (.int .i64 t737)) (fun _ hk => hk.2) (.int .i64 t738)) (fun _ hk => hk.2) (.int .i64 t739)) (fun _ hk => hk.2) (.int .u8 t740)) (fun _ hk => trivial)⟩, ⟨by (with_reducible repeat (first | refine qN ?_ _ | refine qD ?_ | refine qA ?_ _)); refine blk_far ?_ NB732_744.out _; (with_reducible repeat (first | refine qN ?_ _ | refine qD ?_ | refine qA ?_ _)); refine blk_far ?_ NB732_744.out _; (with_reducible repeat (first | refine qN ?_ _ | refine qD ?_ | refine qA ?_ _)); refine blk_far ?_ NB732_744.out _; (with_reducible repeat (first | refine qN ?_ _ | refine qD ?_ | refine qA ?_ _)); refine blk_far ?_ NB732_744.out _; (with_reducible repeat (first | refine qN ?_ _ | refine qD ?_ | refine qA ?_ _)); exact BK732.out⟩, ⟨by (with_reducible repeat (first | refine qN ?_ _ | refine qD ?_ | refine qA ?_ _)); refine blk_far ?_ NB735_744.out _; (with_reducible repeat (first | refine qN ?_ _ | refine qD ?_ | refine qA ?_ _)); refine blk_far ?_ NB735_744.out _; (with_reducible repeat (first | refine qN ?_ _ | refine qD ?_ | refine qA ?_ _)); refine blk_far ?_ NB735_744.out _; (with_reducible repeat (first | refine qN ?_ _ | refine qD ?_ | refine qA ?_ _)); refine blk_far ?_ NB735_744.out _; (with_reducible repeat (first | refine qN ?_ _ | refine qD ?_ | refine qA ?_ _)); exact BK735.out⟩, ⟨by (with_reducible repeat (first | refine qN ?_ _ | refine qD ?_ | refine qA ?_ _)); refine blk_put (cs := #[.int .i64 t737, .int .i64 t738, .int .i64 t739, .int .u8 0]) ?_ 3 _ rfl; (with_reducible repeat (first | refine qN ?_ _ | refine qD ?_ | refine qA ?_ _)); refine blk_put (cs := #[.int .i64 t737, .int .i64 t738, .int .i64 0, .int .u8 0]) ?_ 2 _ rfl; (with_reducible repeat (first | refine qN ?_ _ | refine qD ?_ | refine qA ?_ _)); refine blk_put (cs := #[.int .i64 t737, .int .i64 0, .int .i64 0, .int .u8 0]) ?_ 1 _ rfl; (with_reducible repeat (first | refine qN ?_ _ | refine qD ?_ | refine qA ?_ _)); refine blk_put (cs := #[.int .i64 0, .int .i64 0, .int .i64 0, .int .u8 0]) ?_ 0 _ rfl; (with_reducible repeat (first | refine qN ?_ _ | refine qD ?_ | refine qA ?_ _)); exact BK744.out⟩, ⟨by repeat (first | (with_reducible first | exact HB.out | apply pA | apply pN | apply pD | refine pS ?_ GE732.out | refine pS ?_ GE735.out | refine pS ?_ GE744.out) | exact HB.out)⟩⟩
              case rest =>
                clear HC24
                try clear c1
                try clear c2
                try clear p2
                try clear c3
                try clear c5
                try clear p6
                try clear c8
                try clear c9
                try clear c9b0
                try clear c10
                try clear c12
                try clear c15
                try clear c16
                try clear c19
                try clear c22
                try clear c22b0
                try clear c25
                try clear c29
                try clear c30
                try clear c33
                try clear c33b0
                try clear c33b1
                try clear c34
                try clear c34b0
                try clear c34b1
                try clear hcz10_0
                try clear hcz10_1
                try clear hcz10_2
                try clear hcz10_3
                try clear hcz12_0
                try clear hcz12_1
                try clear hcz12_2
                try clear hcz12_3
                try clear hcz14_0
                try clear hcz14_1
                try clear hcz14_2
                try clear hcz14_3
                try clear hcz17_0
                try clear hcz17_1
                try clear hcz17_2
                try clear hcz17_3
                try clear hcz20_0
                try clear hcz20_1
                try clear hcz20_2
                try clear hcz20_3
                try clear hcz26_0
                try clear hcz26_1
                try clear hcz26_2
                try clear hcz26_3
                try clear hcz31_0
                try clear hcz31_1
                try clear hcz31_2
                try clear hcz31_3
                try clear hfz10_0
                try clear hfz10_1
                try clear hfz10_2
                try clear hfz10_3
                try clear hfz12_0
                try clear hfz12_1
                try clear hfz12_2
                try clear hfz12_3
                try clear hfz14_0
                try clear hfz14_1
                try clear hfz14_2
                try clear hfz14_3
                try clear hfz17_0
                try clear hfz17_1
                try clear hfz17_2
                try clear hfz17_3
                try clear hfz20_0
                try clear hfz20_1
                try clear hfz20_2
                try clear hfz20_3
                try clear hfz26_0
                try clear hfz26_1
                try clear hfz26_2
                try clear hfz26_3
                try clear hfz31_0
                try clear hfz31_1
                try clear hfz31_2
                try clear hfz31_3
                try clear p2
                try clear p6
                obtain ⟨kq, x7_23, rfl, HA, HJ23, HO_11, BK732, BK735, BK744, HB⟩ := hcut
                cases kq with
                | zero => exact absurd HA.out (by simp [portreevelaw12_AutoEnds.j2])
                | succ kj23 =>
                  have H := HA.out
                  clear HA
                  simp only [portreevelaw12_AutoEnds.j2] at H
                  have HC35 := Aside0.mk H
                  clear H
                  go_upto_region 16 with (fail)
                  go_cut [51] (fun v51 wc => ∃ (kq : Nat) (x51_34 : Bool), v51 = .bool x51_34 ∧ Aside0 (portreevelaw12_AutoEnds.j3 kq a1 t733 x6_2 x7_23 x9_2 x51_34 a0_0 a0_1 a0_2 a0_3 t737 t738 t739 t740 = some r) ∧ Aside0 (kq ≤ kj23) ∧ Aside0 (wc.heap[gb732]? = some (.cells #[.int .i64 a0_0, .int .i64 a0_1, .int .i64 a0_2, .int .u8 a0_3] 23 (0, 0))) ∧ Aside0 (wc.heap[gb735]? = some (.cells #[.int .i64 x736000_2, .int .i64 x736001_2, .int .i64 x736002_2, .int .u8 x736003_2] 23 (0, 0))) ∧ Aside0 (wc.heap[gb744]? = some (.cells #[.int .i64 t737, .int .i64 t738, .int .i64 t739, .int .u8 t740] 23 (0, 0))) ∧ Aside0 (Below w.heap.size w wc))
                  case first =>
                    have H := HC35.out
                    clear HC35
                    replace H := Option.bind_eq_some_iff.mp H
                    obtain ⟨t745, A360, H⟩ := H
                    replace H : (if t745 = true then (portreevelaw12_AutoEnds.j3 kj23 a1 t733 x6_2 x7_23 x9_2 true a0_0 a0_1 a0_2 a0_3 t737 t738 t739 t740) else ((portreeveref11_Has.f kj23 t741 10).bind fun t746 => (portreevelaw12_AutoEnds.j3 kj23 a1 t733 x6_2 x7_23 x9_2 t746 a0_0 a0_1 a0_2 a0_3 t737 t738 t739 t740))) = some r := H
                    have A36 := Aside0.mk A360
                    clear A360
                    by_cases c37 : t745 = true
                    · subst c37
                      have H1 : (portreevelaw12_AutoEnds.j3 kj23 a1 t733 x6_2 x7_23 x9_2 true a0_0 a0_1 a0_2 a0_3 t737 t738 t739 t740) = some r := by rw [if_pos rfl] at H; exact H
                      clear H
                      have H := H1
                      clear H1
                      have H' := Aside0.mk H
                      clear H
                      go_wp2_with (first | ((with_reducible refine gate_callee (f := 20) rfl ?_); refine goesL_ (some 47) rfl rfl Tryd.func20 (by kernel_rfl) rfl #[.slice Ao32 t741.length co32, .int .i64 7] rfl (by (try simp only [List.map_toArray, List.map_cons, List.map_nil]); first | done | rfl | (simp only [List.length_drop, List.length_take]; rfl)) ?_; (with_reducible refine (portreeveref11_Has.calls kj23 _ _ t741 7 true _ ?side1 ?side2 A36.out).mono ?_); (case side1 => repeat (first | exact (Kd.R_reads' HO_11.out).2.2 | (with_reducible refine Kd.C_alloc ?_ _) | (with_reducible refine Kd.C_drewN ?_ _) | (with_reducible refine Kd.C_drew ?_))); (case side2 => exact (Kd.R_reads' HO_11.out).2.1); rintro e w' ⟨rfl, ⟨nd, rfl⟩⟩; refine ⟨_, rfl, ?_⟩))
                      go_meet
                      case rel => exact ⟨_, (true), (by first | rfl | (simp; done) | (simp [*]; done)), H', ⟨by have := HJ3.out; have := HK2.out; have := HJ23.out; first | omega | exact Nat.le_refl _⟩, ⟨by (with_reducible repeat (first | refine qN ?_ _ | refine qD ?_ | refine qA ?_ _)); exact BK732.out⟩, ⟨by (with_reducible repeat (first | refine qN ?_ _ | refine qD ?_ | refine qA ?_ _)); exact BK735.out⟩, ⟨by (with_reducible repeat (first | refine qN ?_ _ | refine qD ?_ | refine qA ?_ _)); exact BK744.out⟩, ⟨by repeat (first | (with_reducible first | exact HB.out | apply pA | apply pN | apply pD | refine pS ?_ GE732.out | refine pS ?_ GE735.out | refine pS ?_ GE744.out) | exact HB.out)⟩⟩
                    · replace c37 := Bool.eq_false_iff.mpr c37
                      subst c37
                      have H1 : ((portreeveref11_Has.f kj23 t741 10).bind fun t746 => (portreevelaw12_AutoEnds.j3 kj23 a1 t733 x6_2 x7_23 x9_2 t746 a0_0 a0_1 a0_2 a0_3 t737 t738 t739 t740)) = some r := by rw [if_neg (show ¬ (false = true) by decide)] at H; exact H
                      clear H
                      have H := H1
                      clear H1
                      replace H := Option.bind_eq_some_iff.mp H
                      obtain ⟨t746, A380, H⟩ := H
                      replace H : (portreevelaw12_AutoEnds.j3 kj23 a1 t733 x6_2 x7_23 x9_2 t746 a0_0 a0_1 a0_2 a0_3 t737 t738 t739 t740) = some r := H
                      have A38 := Aside0.mk A380
                      clear A380
                      have H' := Aside0.mk H
                      clear H
                      go_wp2_with (first | ((with_reducible refine gate_callee (f := 20) rfl ?_); refine goesL_ (some 47) rfl rfl Tryd.func20 (by kernel_rfl) rfl #[.slice Ao32 t741.length co32, .int .i64 7] rfl (by (try simp only [List.map_toArray, List.map_cons, List.map_nil]); first | done | rfl | (simp only [List.length_drop, List.length_take]; rfl)) ?_; (with_reducible refine (portreeveref11_Has.calls kj23 _ _ t741 7 false _ ?side1 ?side2 A36.out).mono ?_); (case side1 => repeat (first | exact (Kd.R_reads' HO_11.out).2.2 | (with_reducible refine Kd.C_alloc ?_ _) | (with_reducible refine Kd.C_drewN ?_ _) | (with_reducible refine Kd.C_drew ?_))); (case side2 => exact (Kd.R_reads' HO_11.out).2.1); rintro e w' ⟨rfl, ⟨nd, rfl⟩⟩; refine ⟨_, rfl, ?_⟩) | (go_at_call 20; (with_reducible refine (portreeveref11_Has.calls kj23 _ _ t741 10 t746 _ ?side1 ?side2 A38.out).mono ?_); (case side1 => repeat (first | exact (Kd.R_reads' HO_11.out).2.2 | (with_reducible refine Kd.C_alloc ?_ _) | (with_reducible refine Kd.C_drewN ?_ _) | (with_reducible refine Kd.C_drew ?_))); (case side2 => exact (Kd.R_reads' HO_11.out).2.1); rintro e w' ⟨rfl, ⟨nd, rfl⟩⟩))
                      go_meet
                      case rel => exact ⟨_, (t746), (by first | rfl | (simp; done) | (simp [*]; done)), H', ⟨by have := HJ3.out; have := HK2.out; have := HJ23.out; first | omega | exact Nat.le_refl _⟩, ⟨by (with_reducible repeat (first | refine qN ?_ _ | refine qD ?_ | refine qA ?_ _)); exact BK732.out⟩, ⟨by (with_reducible repeat (first | refine qN ?_ _ | refine qD ?_ | refine qA ?_ _)); exact BK735.out⟩, ⟨by (with_reducible repeat (first | refine qN ?_ _ | refine qD ?_ | refine qA ?_ _)); exact BK744.out⟩, ⟨by repeat (first | (with_reducible first | exact HB.out | apply pA | apply pN | apply pD | refine pS ?_ GE732.out | refine pS ?_ GE735.out | refine pS ?_ GE744.out) | exact HB.out)⟩⟩
                  case rest =>
                    clear HC35
                    try clear c1
                    try clear c2
                    try clear p2
                    try clear c3
                    try clear c5
                    try clear p6
                    try clear c8
                    try clear c9
                    try clear c9b0
                    try clear c10
                    try clear c12
                    try clear c15
                    try clear c16
                    try clear c19
                    try clear c20
                    try clear c22
                    try clear c22b0
                    try clear c25
                    try clear c29
                    try clear c30
                    try clear c33
                    try clear c33b0
                    try clear c33b1
                    try clear c34
                    try clear c34b0
                    try clear c34b1
                    try clear c37
                    try clear hcz10_0
                    try clear hcz10_1
                    try clear hcz10_2
                    try clear hcz10_3
                    try clear hcz12_0
                    try clear hcz12_1
                    try clear hcz12_2
                    try clear hcz12_3
                    try clear hcz14_0
                    try clear hcz14_1
                    try clear hcz14_2
                    try clear hcz14_3
                    try clear hcz17_0
                    try clear hcz17_1
                    try clear hcz17_2
                    try clear hcz17_3
                    try clear hcz20_0
                    try clear hcz20_1
                    try clear hcz20_2
                    try clear hcz20_3
                    try clear hcz26_0
                    try clear hcz26_1
                    try clear hcz26_2
                    try clear hcz26_3
                    try clear hcz31_0
                    try clear hcz31_1
                    try clear hcz31_2
                    try clear hcz31_3
                    try clear hfz10_0
                    try clear hfz10_1
                    try clear hfz10_2
                    try clear hfz10_3
                    try clear hfz12_0
                    try clear hfz12_1
                    try clear hfz12_2
                    try clear hfz12_3
                    try clear hfz14_0
                    try clear hfz14_1
                    try clear hfz14_2
                    try clear hfz14_3
                    try clear hfz17_0
                    try clear hfz17_1
                    try clear hfz17_2
                    try clear hfz17_3
                    try clear hfz20_0
                    try clear hfz20_1
                    try clear hfz20_2
                    try clear hfz20_3
                    try clear hfz26_0
                    try clear hfz26_1
                    try clear hfz26_2
                    try clear hfz26_3
                    try clear hfz31_0
                    try clear hfz31_1
                    try clear hfz31_2
                    try clear hfz31_3
                    try clear p2
                    try clear p6
                    obtain ⟨kq, x51_34, rfl, HA, HJ34, BK732, BK735, BK744, HB⟩ := hcut
                    cases kq with
                    | zero => exact absurd HA.out (by simp [portreevelaw12_AutoEnds.j3])
                    | succ kj34 =>
                      have H := HA.out
                      clear HA
                      simp only [portreevelaw12_AutoEnds.j3] at H
                      by_cases c39 : x51_34 = true
                      · subst c39
                        have H1 : (portreevelaw12_AutoEnds.l0 kj34 a1 t733 (wrap64 (x6_2 + 1)) x7_23 (wrap64 (x9_2 + 1)) a0_0 a0_1 a0_2 a0_3 t737 t738 t739 t740) = some r := by rw [if_pos rfl] at H; exact H
                        clear H
                        have H := H1
                        clear H1
                        have H' := Aside0.mk H
                        clear H
                        have hnb40 := NB744_732.out
                        have hnc40 := NB732_744.out
                        have hnb41 := NB744_735.out
                        have hnc41 := NB735_744.out
                        have hcz42_0 : wc.cell? ⟨gb744, 0, none⟩ = some (.int .i64 t737) := (blk_cell BK744.out 0).trans rfl
                        have hcz42_1 : wc.cell? ⟨gb744, 1, none⟩ = some (.int .i64 t738) := (blk_cell BK744.out 1).trans rfl
                        have hcz42_2 : wc.cell? ⟨gb744, 2, none⟩ = some (.int .i64 t739) := (blk_cell BK744.out 2).trans rfl
                        have hcz42_3 : wc.cell? ⟨gb744, 3, none⟩ = some (.int .u8 t740) := (blk_cell BK744.out 3).trans rfl
                        have hfz42_0 := blk_frozen BK744.out 0
                        have hfz42_1 := blk_frozen BK744.out 1
                        have hfz42_2 := blk_frozen BK744.out 2
                        have hfz42_3 := blk_frozen BK744.out 3
                        have hnb43 := NB735_732.out
                        have hnc43 := NB732_735.out
                        have hcz44_0 : wc.cell? ⟨gb735, 0, none⟩ = some (.int .i64 x736000_2) := (blk_cell BK735.out 0).trans rfl
                        have hcz44_1 : wc.cell? ⟨gb735, 1, none⟩ = some (.int .i64 x736001_2) := (blk_cell BK735.out 1).trans rfl
                        have hcz44_2 : wc.cell? ⟨gb735, 2, none⟩ = some (.int .i64 x736002_2) := (blk_cell BK735.out 2).trans rfl
                        have hcz44_3 : wc.cell? ⟨gb735, 3, none⟩ = some (.int .u8 x736003_2) := (blk_cell BK735.out 3).trans rfl
                        have hfz44_0 := blk_frozen BK735.out 0
                        have hfz44_1 := blk_frozen BK735.out 1
                        have hfz44_2 := blk_frozen BK735.out 2
                        have hfz44_3 := blk_frozen BK735.out 3
                        go_wp2
                        go_roundg kj34
                        case measure => have := HJ3.out; have := HK2.out; have := HJ23.out; have := HJ34.out; omega
                        case rel => exact ⟨(wrap64 (x6_2 + 1)), (x7_23), (wrap64 (x9_2 + 1)), (t737), (t738), (t739), (t740), (by first | rfl | (simp; done) | (simp [*]; done)), (by first | rfl | (simp; done) | (simp [*]; done)), (by first | rfl | (simp; done) | (simp [*]; done)), H', ⟨by have := HJ3.out; have := HK2.out; have := HJ23.out; have := HJ34.out; omega⟩, ⟨by (with_reducible repeat (first | refine qN ?_ _ | refine qD ?_ | refine qA ?_ _)); refine blk_far ?_ NB732_735.out _; (with_reducible repeat (first | refine qN ?_ _ | refine qD ?_ | refine qA ?_ _)); refine blk_far ?_ NB732_735.out _; (with_reducible repeat (first | refine qN ?_ _ | refine qD ?_ | refine qA ?_ _)); refine blk_far ?_ NB732_735.out _; (with_reducible repeat (first | refine qN ?_ _ | refine qD ?_ | refine qA ?_ _)); refine blk_far ?_ NB732_735.out _; (with_reducible repeat (first | refine qN ?_ _ | refine qD ?_ | refine qA ?_ _)); exact BK732.out⟩, ⟨by (with_reducible repeat (first | refine qN ?_ _ | refine qD ?_ | refine qA ?_ _)); refine blk_put (cs := #[.int .i64 t737, .int .i64 t738, .int .i64 t739, .int .u8 x736003_2]) ?_ 3 _ rfl; (with_reducible repeat (first | refine qN ?_ _ | refine qD ?_ | refine qA ?_ _)); refine blk_put (cs := #[.int .i64 t737, .int .i64 t738, .int .i64 x736002_2, .int .u8 x736003_2]) ?_ 2 _ rfl; (with_reducible repeat (first | refine qN ?_ _ | refine qD ?_ | refine qA ?_ _)); refine blk_put (cs := #[.int .i64 t737, .int .i64 x736001_2, .int .i64 x736002_2, .int .u8 x736003_2]) ?_ 1 _ rfl; (with_reducible repeat (first | refine qN ?_ _ | refine qD ?_ | refine qA ?_ _)); refine blk_put (cs := #[.int .i64 x736000_2, .int .i64 x736001_2, .int .i64 x736002_2, .int .u8 x736003_2]) ?_ 0 _ rfl; (with_reducible repeat (first | refine qN ?_ _ | refine qD ?_ | refine qA ?_ _)); exact BK735.out⟩, ⟨by repeat (first | (with_reducible first | exact HB.out | apply pA | apply pN | apply pD | refine pS ?_ GE732.out | refine pS ?_ GE735.out | refine pS ?_ GE744.out) | exact HB.out)⟩⟩
                      · replace c39 := Bool.eq_false_iff.mpr c39
                        subst c39
                        have H1 : (portreevelaw12_AutoEnds.l0 kj34 a1 t733 x6_2 x7_23 (wrap64 (x9_2 + 1)) a0_0 a0_1 a0_2 a0_3 t737 t738 t739 t740) = some r := by rw [if_neg (show ¬ (false = true) by decide)] at H; exact H
                        clear H
                        have H := H1
                        clear H1
                        have H' := Aside0.mk H
                        clear H
                        have hnb45 := NB744_732.out
                        have hnc45 := NB732_744.out
                        have hnb46 := NB744_735.out
                        have hnc46 := NB735_744.out
                        have hcz47_0 : wc.cell? ⟨gb744, 0, none⟩ = some (.int .i64 t737) := (blk_cell BK744.out 0).trans rfl
                        have hcz47_1 : wc.cell? ⟨gb744, 1, none⟩ = some (.int .i64 t738) := (blk_cell BK744.out 1).trans rfl
                        have hcz47_2 : wc.cell? ⟨gb744, 2, none⟩ = some (.int .i64 t739) := (blk_cell BK744.out 2).trans rfl
                        have hcz47_3 : wc.cell? ⟨gb744, 3, none⟩ = some (.int .u8 t740) := (blk_cell BK744.out 3).trans rfl
                        have hfz47_0 := blk_frozen BK744.out 0
                        have hfz47_1 := blk_frozen BK744.out 1
                        have hfz47_2 := blk_frozen BK744.out 2
                        have hfz47_3 := blk_frozen BK744.out 3
                        have hnb48 := NB735_732.out
                        have hnc48 := NB732_735.out
                        have hcz49_0 : wc.cell? ⟨gb735, 0, none⟩ = some (.int .i64 x736000_2) := (blk_cell BK735.out 0).trans rfl
                        have hcz49_1 : wc.cell? ⟨gb735, 1, none⟩ = some (.int .i64 x736001_2) := (blk_cell BK735.out 1).trans rfl
                        have hcz49_2 : wc.cell? ⟨gb735, 2, none⟩ = some (.int .i64 x736002_2) := (blk_cell BK735.out 2).trans rfl
                        have hcz49_3 : wc.cell? ⟨gb735, 3, none⟩ = some (.int .u8 x736003_2) := (blk_cell BK735.out 3).trans rfl
                        have hfz49_0 := blk_frozen BK735.out 0
                        have hfz49_1 := blk_frozen BK735.out 1
                        have hfz49_2 := blk_frozen BK735.out 2
                        have hfz49_3 := blk_frozen BK735.out 3
                        go_wp2
                        go_roundg kj34
                        case measure => have := HJ3.out; have := HK2.out; have := HJ23.out; have := HJ34.out; omega
                        case rel => exact ⟨(x6_2), (x7_23), (wrap64 (x9_2 + 1)), (t737), (t738), (t739), (t740), (by first | rfl | (simp; done) | (simp [*]; done)), (by first | rfl | (simp; done) | (simp [*]; done)), (by first | rfl | (simp; done) | (simp [*]; done)), H', ⟨by have := HJ3.out; have := HK2.out; have := HJ23.out; have := HJ34.out; omega⟩, ⟨by (with_reducible repeat (first | refine qN ?_ _ | refine qD ?_ | refine qA ?_ _)); refine blk_far ?_ NB732_735.out _; (with_reducible repeat (first | refine qN ?_ _ | refine qD ?_ | refine qA ?_ _)); refine blk_far ?_ NB732_735.out _; (with_reducible repeat (first | refine qN ?_ _ | refine qD ?_ | refine qA ?_ _)); refine blk_far ?_ NB732_735.out _; (with_reducible repeat (first | refine qN ?_ _ | refine qD ?_ | refine qA ?_ _)); refine blk_far ?_ NB732_735.out _; (with_reducible repeat (first | refine qN ?_ _ | refine qD ?_ | refine qA ?_ _)); exact BK732.out⟩, ⟨by (with_reducible repeat (first | refine qN ?_ _ | refine qD ?_ | refine qA ?_ _)); refine blk_put (cs := #[.int .i64 t737, .int .i64 t738, .int .i64 t739, .int .u8 x736003_2]) ?_ 3 _ rfl; (with_reducible repeat (first | refine qN ?_ _ | refine qD ?_ | refine qA ?_ _)); refine blk_put (cs := #[.int .i64 t737, .int .i64 t738, .int .i64 x736002_2, .int .u8 x736003_2]) ?_ 2 _ rfl; (with_reducible repeat (first | refine qN ?_ _ | refine qD ?_ | refine qA ?_ _)); refine blk_put (cs := #[.int .i64 t737, .int .i64 x736001_2, .int .i64 x736002_2, .int .u8 x736003_2]) ?_ 1 _ rfl; (with_reducible repeat (first | refine qN ?_ _ | refine qD ?_ | refine qA ?_ _)); refine blk_put (cs := #[.int .i64 x736000_2, .int .i64 x736001_2, .int .i64 x736002_2, .int .u8 x736003_2]) ?_ 0 _ rfl; (with_reducible repeat (first | refine qN ?_ _ | refine qD ?_ | refine qA ?_ _)); exact BK735.out⟩, ⟨by repeat (first | (with_reducible first | exact HB.out | apply pA | apply pN | apply pD | refine pS ?_ GE732.out | refine pS ?_ GE735.out | refine pS ?_ GE744.out) | exact HB.out)⟩⟩
            · rw [if_neg c22] at H
              have c22b0 : decide (x9_2 < t736) = false := decide_eq_false c22
              clear c22
              have HC50 := Aside0.mk H
              clear H
              go_upto_region 19 with (first | ((with_reducible refine gate_callee (f := 12) rfl ?_); refine goesL_ (some 30) rfl rfl Tryd.func12 (by kernel_rfl) rfl #[] rfl (by (try simp only [List.map_toArray, List.map_cons, List.map_nil]); first | done | rfl | (simp only [List.length_drop, List.length_take]; rfl)) ?_; (with_reducible refine (auto_Bound.calls  t736 _ A21.out).mono ?_); rintro e w' ⟨rfl, ⟨nd, rfl⟩⟩; refine ⟨_, rfl, ?_⟩))
              (try simp only [Act.put, List.setIfInBounds_toArray, List.set_cons_zero, List.set_cons_succ])
              go_cut [73] (fun v73 wc => ∃ (kq : Nat) (x73_49 : Bool), v73 = .bool x73_49 ∧ Aside0 (portreevelaw12_AutoEnds.j4 kq a1 t733 x6_2 x73_49 a0_0 a0_1 a0_2 a0_3 x736000_2 x736001_2 x736002_2 x736003_2 = some r) ∧ Aside0 (kq ≤ k2) ∧ Aside0 (wc.heap[gb732]? = some (.cells #[.int .i64 a0_0, .int .i64 a0_1, .int .i64 a0_2, .int .u8 a0_3] 23 (0, 0))) ∧ Aside0 (wc.heap[gb735]? = some (.cells #[.int .i64 x736000_2, .int .i64 x736001_2, .int .i64 x736002_2, .int .u8 x736003_2] 23 (0, 0))) ∧ Aside0 (Below w.heap.size w wc))
              case first =>
                have H := HC50.out
                clear HC50
                replace H := Option.bind_eq_some_iff.mp H
                obtain ⟨t747, A510, H⟩ := H
                replace H : (if t747 = true then (if x6_2 = a0_1 then (if x736000_2 = 2 then (portreevelaw12_AutoEnds.j4 k2 a1 t733 x6_2 false a0_0 a0_1 a0_2 a0_3 x736000_2 x736001_2 x736002_2 x736003_2) else (portreevelaw12_AutoEnds.j4 k2 a1 t733 x6_2 (x736000_2 != 3) a0_0 a0_1 a0_2 a0_3 x736000_2 x736001_2 x736002_2 x736003_2)) else (portreevelaw12_AutoEnds.j4 k2 a1 t733 x6_2 true a0_0 a0_1 a0_2 a0_3 x736000_2 x736001_2 x736002_2 x736003_2)) else (portreevelaw12_AutoEnds.j4 k2 a1 t733 x6_2 false a0_0 a0_1 a0_2 a0_3 x736000_2 x736001_2 x736002_2 x736003_2)) = some r := H
                have A51 := Aside0.mk A510
                clear A510
                by_cases c52 : t747 = true
                · subst c52
                  have H1 : (if x6_2 = a0_1 then (if x736000_2 = 2 then (portreevelaw12_AutoEnds.j4 k2 a1 t733 x6_2 false a0_0 a0_1 a0_2 a0_3 x736000_2 x736001_2 x736002_2 x736003_2) else (portreevelaw12_AutoEnds.j4 k2 a1 t733 x6_2 (x736000_2 != 3) a0_0 a0_1 a0_2 a0_3 x736000_2 x736001_2 x736002_2 x736003_2)) else (portreevelaw12_AutoEnds.j4 k2 a1 t733 x6_2 true a0_0 a0_1 a0_2 a0_3 x736000_2 x736001_2 x736002_2 x736003_2)) = some r := by rw [if_pos rfl] at H; exact H
                  clear H
                  have H := H1
                  clear H1
                  by_cases c53 : x6_2 = a0_1
                  · rw [if_pos c53] at H
                    have c53b0 : (x6_2 == a0_1) = true := beq_iff_eq.mpr c53
                    have c53b1 : (x6_2 != a0_1) = false := bne_eq_false_iff_eq.mpr c53
                    clear c53
                    (first | rw [c53b0] | (simp only [i64_w, i32_w]; rw [c53b0]) | skip)
                    by_cases c54 : x736000_2 = 2
                    · rw [if_pos c54] at H
                      have c54b0 : (x736000_2 == 2) = true := beq_iff_eq.mpr c54
                      have c54b1 : (x736000_2 != 2) = false := bne_eq_false_iff_eq.mpr c54
                      clear c54
                      have H' := Aside0.mk H
                      clear H
                      have hnb55 := NB732_735.out
                      have hnc55 := NB735_732.out
                      have hcz56_0 : wr.cell? ⟨gb732, 0, none⟩ = some (.int .i64 a0_0) := (blk_cell BK732.out 0).trans rfl
                      have hcz56_1 : wr.cell? ⟨gb732, 1, none⟩ = some (.int .i64 a0_1) := (blk_cell BK732.out 1).trans rfl
                      have hcz56_2 : wr.cell? ⟨gb732, 2, none⟩ = some (.int .i64 a0_2) := (blk_cell BK732.out 2).trans rfl
                      have hcz56_3 : wr.cell? ⟨gb732, 3, none⟩ = some (.int .u8 a0_3) := (blk_cell BK732.out 3).trans rfl
                      have hfz56_0 := blk_frozen BK732.out 0
                      have hfz56_1 := blk_frozen BK732.out 1
                      have hfz56_2 := blk_frozen BK732.out 2
                      have hfz56_3 := blk_frozen BK732.out 3
                      go_wp2_with (first | ((with_reducible refine gate_callee (f := 21) rfl ?_); refine goesL_ (some 57) rfl rfl Tryd.func21 (by kernel_rfl) rfl #[.int .i64 a0_0] rfl (by (try simp only [List.map_toArray, List.map_cons, List.map_nil]); first | done | rfl | (simp only [List.length_drop, List.length_take]; rfl)) ?_; (with_reducible refine (portreeveref11_Timed.calls a0_0 true _ A51.out).mono ?_); rintro e w' ⟨rfl, ⟨nd, rfl⟩⟩; refine ⟨_, rfl, ?_⟩; have hcz57_0 : wr.cell? ⟨gb735, 0, none⟩ = some (.int .i64 x736000_2) := (blk_cell BK735.out 0).trans rfl; have hcz57_1 : wr.cell? ⟨gb735, 1, none⟩ = some (.int .i64 x736001_2) := (blk_cell BK735.out 1).trans rfl; have hcz57_2 : wr.cell? ⟨gb735, 2, none⟩ = some (.int .i64 x736002_2) := (blk_cell BK735.out 2).trans rfl; have hcz57_3 : wr.cell? ⟨gb735, 3, none⟩ = some (.int .u8 x736003_2) := (blk_cell BK735.out 3).trans rfl; have hfz57_0 := blk_frozen BK735.out 0; have hfz57_1 := blk_frozen BK735.out 1; have hfz57_2 := blk_frozen BK735.out 2; have hfz57_3 := blk_frozen BK735.out 3))
                      go_meet
                      case rel => exact ⟨_, (false), (by first | rfl | (simp; done) | (simp [*]; done)), H', ⟨by have := HJ3.out; have := HK2.out; first | omega | exact Nat.le_refl _⟩, ⟨by (with_reducible repeat (first | refine qN ?_ _ | refine qD ?_ | refine qA ?_ _)); exact BK732.out⟩, ⟨by (with_reducible repeat (first | refine qN ?_ _ | refine qD ?_ | refine qA ?_ _)); exact BK735.out⟩, ⟨by repeat (first | (with_reducible first | exact HB.out | apply pA | apply pN | apply pD | refine pS ?_ GE732.out | refine pS ?_ GE735.out) | exact HB.out)⟩⟩
                    · rw [if_neg c54] at H
                      have c54b0 : (x736000_2 == 2) = false := beq_eq_false_iff_ne.mpr c54
                      have c54b1 : (x736000_2 != 2) = true := bne_iff_ne.mpr c54
                      have H' := Aside0.mk H
                      clear H
                      have hnb58 := NB732_735.out
                      have hnc58 := NB735_732.out
                      have hcz59_0 : wr.cell? ⟨gb732, 0, none⟩ = some (.int .i64 a0_0) := (blk_cell BK732.out 0).trans rfl
                      have hcz59_1 : wr.cell? ⟨gb732, 1, none⟩ = some (.int .i64 a0_1) := (blk_cell BK732.out 1).trans rfl
                      have hcz59_2 : wr.cell? ⟨gb732, 2, none⟩ = some (.int .i64 a0_2) := (blk_cell BK732.out 2).trans rfl
                      have hcz59_3 : wr.cell? ⟨gb732, 3, none⟩ = some (.int .u8 a0_3) := (blk_cell BK732.out 3).trans rfl
                      have hfz59_0 := blk_frozen BK732.out 0
                      have hfz59_1 := blk_frozen BK732.out 1
                      have hfz59_2 := blk_frozen BK732.out 2
                      have hfz59_3 := blk_frozen BK732.out 3
                      go_wp2_with (first | ((with_reducible refine gate_callee (f := 21) rfl ?_); refine goesL_ (some 57) rfl rfl Tryd.func21 (by kernel_rfl) rfl #[.int .i64 a0_0] rfl (by (try simp only [List.map_toArray, List.map_cons, List.map_nil]); first | done | rfl | (simp only [List.length_drop, List.length_take]; rfl)) ?_; (with_reducible refine (portreeveref11_Timed.calls a0_0 true _ A51.out).mono ?_); rintro e w' ⟨rfl, ⟨nd, rfl⟩⟩; refine ⟨_, rfl, ?_⟩; have hcz60_0 : wr.cell? ⟨gb735, 0, none⟩ = some (.int .i64 x736000_2) := (blk_cell BK735.out 0).trans rfl; have hcz60_1 : wr.cell? ⟨gb735, 1, none⟩ = some (.int .i64 x736001_2) := (blk_cell BK735.out 1).trans rfl; have hcz60_2 : wr.cell? ⟨gb735, 2, none⟩ = some (.int .i64 x736002_2) := (blk_cell BK735.out 2).trans rfl; have hcz60_3 : wr.cell? ⟨gb735, 3, none⟩ = some (.int .u8 x736003_2) := (blk_cell BK735.out 3).trans rfl; have hfz60_0 := blk_frozen BK735.out 0; have hfz60_1 := blk_frozen BK735.out 1; have hfz60_2 := blk_frozen BK735.out 2; have hfz60_3 := blk_frozen BK735.out 3))
                      go_meet
                      case rel => exact ⟨_, ((x736000_2 != 3)), (by first | rfl | (simp; done) | (simp [*]; done)), H', ⟨by have := HJ3.out; have := HK2.out; first | omega | exact Nat.le_refl _⟩, ⟨by (with_reducible repeat (first | refine qN ?_ _ | refine qD ?_ | refine qA ?_ _)); exact BK732.out⟩, ⟨by (with_reducible repeat (first | refine qN ?_ _ | refine qD ?_ | refine qA ?_ _)); exact BK735.out⟩, ⟨by repeat (first | (with_reducible first | exact HB.out | apply pA | apply pN | apply pD | refine pS ?_ GE732.out | refine pS ?_ GE735.out) | exact HB.out)⟩⟩
                  · rw [if_neg c53] at H
                    have c53b0 : (x6_2 == a0_1) = false := beq_eq_false_iff_ne.mpr c53
                    have c53b1 : (x6_2 != a0_1) = true := bne_iff_ne.mpr c53
                    (first | rw [c53b0] | (simp only [i64_w, i32_w]; rw [c53b0]) | skip)
                    have H' := Aside0.mk H
                    clear H
                    have hnb61 := NB732_735.out
                    have hnc61 := NB735_732.out
                    have hcz62_0 : wr.cell? ⟨gb732, 0, none⟩ = some (.int .i64 a0_0) := (blk_cell BK732.out 0).trans rfl
                    have hcz62_1 : wr.cell? ⟨gb732, 1, none⟩ = some (.int .i64 a0_1) := (blk_cell BK732.out 1).trans rfl
                    have hcz62_2 : wr.cell? ⟨gb732, 2, none⟩ = some (.int .i64 a0_2) := (blk_cell BK732.out 2).trans rfl
                    have hcz62_3 : wr.cell? ⟨gb732, 3, none⟩ = some (.int .u8 a0_3) := (blk_cell BK732.out 3).trans rfl
                    have hfz62_0 := blk_frozen BK732.out 0
                    have hfz62_1 := blk_frozen BK732.out 1
                    have hfz62_2 := blk_frozen BK732.out 2
                    have hfz62_3 := blk_frozen BK732.out 3
                    go_wp2_with (first | ((with_reducible refine gate_callee (f := 21) rfl ?_); refine goesL_ (some 57) rfl rfl Tryd.func21 (by kernel_rfl) rfl #[.int .i64 a0_0] rfl (by (try simp only [List.map_toArray, List.map_cons, List.map_nil]); first | done | rfl | (simp only [List.length_drop, List.length_take]; rfl)) ?_; (with_reducible refine (portreeveref11_Timed.calls a0_0 true _ A51.out).mono ?_); rintro e w' ⟨rfl, ⟨nd, rfl⟩⟩; refine ⟨_, rfl, ?_⟩))
                    go_meet
                    case rel => exact ⟨_, (true), (by first | rfl | (simp; done) | (simp [*]; done)), H', ⟨by have := HJ3.out; have := HK2.out; first | omega | exact Nat.le_refl _⟩, ⟨by (with_reducible repeat (first | refine qN ?_ _ | refine qD ?_ | refine qA ?_ _)); exact BK732.out⟩, ⟨by (with_reducible repeat (first | refine qN ?_ _ | refine qD ?_ | refine qA ?_ _)); exact BK735.out⟩, ⟨by repeat (first | (with_reducible first | exact HB.out | apply pA | apply pN | apply pD | refine pS ?_ GE732.out | refine pS ?_ GE735.out) | exact HB.out)⟩⟩
                · replace c52 := Bool.eq_false_iff.mpr c52
                  subst c52
                  have H1 : (portreevelaw12_AutoEnds.j4 k2 a1 t733 x6_2 false a0_0 a0_1 a0_2 a0_3 x736000_2 x736001_2 x736002_2 x736003_2) = some r := by rw [if_neg (show ¬ (false = true) by decide)] at H; exact H
                  clear H
                  have H := H1
                  clear H1
                  have H' := Aside0.mk H
                  clear H
                  have hnb63 := NB732_735.out
                  have hnc63 := NB735_732.out
                  have hcz64_0 : wr.cell? ⟨gb732, 0, none⟩ = some (.int .i64 a0_0) := (blk_cell BK732.out 0).trans rfl
                  have hcz64_1 : wr.cell? ⟨gb732, 1, none⟩ = some (.int .i64 a0_1) := (blk_cell BK732.out 1).trans rfl
                  have hcz64_2 : wr.cell? ⟨gb732, 2, none⟩ = some (.int .i64 a0_2) := (blk_cell BK732.out 2).trans rfl
                  have hcz64_3 : wr.cell? ⟨gb732, 3, none⟩ = some (.int .u8 a0_3) := (blk_cell BK732.out 3).trans rfl
                  have hfz64_0 := blk_frozen BK732.out 0
                  have hfz64_1 := blk_frozen BK732.out 1
                  have hfz64_2 := blk_frozen BK732.out 2
                  have hfz64_3 := blk_frozen BK732.out 3
                  go_wp2_with (first | ((with_reducible refine gate_callee (f := 21) rfl ?_); refine goesL_ (some 57) rfl rfl Tryd.func21 (by kernel_rfl) rfl #[.int .i64 a0_0] rfl (by (try simp only [List.map_toArray, List.map_cons, List.map_nil]); first | done | rfl | (simp only [List.length_drop, List.length_take]; rfl)) ?_; (with_reducible refine (portreeveref11_Timed.calls a0_0 false _ A51.out).mono ?_); rintro e w' ⟨rfl, ⟨nd, rfl⟩⟩; refine ⟨_, rfl, ?_⟩))
                  go_meet
                  case rel => exact ⟨_, (false), (by first | rfl | (simp; done) | (simp [*]; done)), H', ⟨by have := HJ3.out; have := HK2.out; first | omega | exact Nat.le_refl _⟩, ⟨by (with_reducible repeat (first | refine qN ?_ _ | refine qD ?_ | refine qA ?_ _)); exact BK732.out⟩, ⟨by (with_reducible repeat (first | refine qN ?_ _ | refine qD ?_ | refine qA ?_ _)); exact BK735.out⟩, ⟨by repeat (first | (with_reducible first | exact HB.out | apply pA | apply pN | apply pD | refine pS ?_ GE732.out | refine pS ?_ GE735.out) | exact HB.out)⟩⟩
              case rest =>
                clear HC50
                try clear c1
                try clear c2
                try clear p2
                try clear c3
                try clear c4
                try clear c5
                try clear c6
                try clear p6
                try clear c8
                try clear c9
                try clear c9b0
                try clear c10
                try clear c12
                try clear c15
                try clear c16
                try clear c19
                try clear c20
                try clear c21
                try clear c22
                try clear c22b0
                try clear c25
                try clear c29
                try clear c30
                try clear c33
                try clear c33b0
                try clear c33b1
                try clear c34
                try clear c34b0
                try clear c34b1
                try clear c37
                try clear c39
                try clear c40
                try clear c41
                try clear c43
                try clear c45
                try clear c46
                try clear c48
                try clear c52
                try clear c53
                try clear c53b0
                try clear c53b1
                try clear c54
                try clear c54b0
                try clear c54b1
                try clear c55
                try clear c58
                try clear c61
                try clear c63
                try clear p64
                try clear hcz10_0
                try clear hcz10_1
                try clear hcz10_2
                try clear hcz10_3
                try clear hcz12_0
                try clear hcz12_1
                try clear hcz12_2
                try clear hcz12_3
                try clear hcz14_0
                try clear hcz14_1
                try clear hcz14_2
                try clear hcz14_3
                try clear hcz17_0
                try clear hcz17_1
                try clear hcz17_2
                try clear hcz17_3
                try clear hcz20_0
                try clear hcz20_1
                try clear hcz20_2
                try clear hcz20_3
                try clear hcz26_0
                try clear hcz26_1
                try clear hcz26_2
                try clear hcz26_3
                try clear hcz31_0
                try clear hcz31_1
                try clear hcz31_2
                try clear hcz31_3
                try clear hcz42_0
                try clear hcz42_1
                try clear hcz42_2
                try clear hcz42_3
                try clear hcz44_0
                try clear hcz44_1
                try clear hcz44_2
                try clear hcz44_3
                try clear hcz47_0
                try clear hcz47_1
                try clear hcz47_2
                try clear hcz47_3
                try clear hcz49_0
                try clear hcz49_1
                try clear hcz49_2
                try clear hcz49_3
                try clear hcz56_0
                try clear hcz56_1
                try clear hcz56_2
                try clear hcz56_3
                try clear hcz57_0
                try clear hcz57_1
                try clear hcz57_2
                try clear hcz57_3
                try clear hcz59_0
                try clear hcz59_1
                try clear hcz59_2
                try clear hcz59_3
                try clear hcz60_0
                try clear hcz60_1
                try clear hcz60_2
                try clear hcz60_3
                try clear hcz62_0
                try clear hcz62_1
                try clear hcz62_2
                try clear hcz62_3
                try clear hcz64_0
                try clear hcz64_1
                try clear hcz64_2
                try clear hcz64_3
                try clear hfz10_0
                try clear hfz10_1
                try clear hfz10_2
                try clear hfz10_3
                try clear hfz12_0
                try clear hfz12_1
                try clear hfz12_2
                try clear hfz12_3
                try clear hfz14_0
                try clear hfz14_1
                try clear hfz14_2
                try clear hfz14_3
                try clear hfz17_0
                try clear hfz17_1
                try clear hfz17_2
                try clear hfz17_3
                try clear hfz20_0
                try clear hfz20_1
                try clear hfz20_2
                try clear hfz20_3
                try clear hfz26_0
                try clear hfz26_1
                try clear hfz26_2
                try clear hfz26_3
                try clear hfz31_0
                try clear hfz31_1
                try clear hfz31_2
                try clear hfz31_3
                try clear hfz42_0
                try clear hfz42_1
                try clear hfz42_2
                try clear hfz42_3
                try clear hfz44_0
                try clear hfz44_1
                try clear hfz44_2
                try clear hfz44_3
                try clear hfz47_0
                try clear hfz47_1
                try clear hfz47_2
                try clear hfz47_3
                try clear hfz49_0
                try clear hfz49_1
                try clear hfz49_2
                try clear hfz49_3
                try clear hfz56_0
                try clear hfz56_1
                try clear hfz56_2
                try clear hfz56_3
                try clear hfz57_0
                try clear hfz57_1
                try clear hfz57_2
                try clear hfz57_3
                try clear hfz59_0
                try clear hfz59_1
                try clear hfz59_2
                try clear hfz59_3
                try clear hfz60_0
                try clear hfz60_1
                try clear hfz60_2
                try clear hfz60_3
                try clear hfz62_0
                try clear hfz62_1
                try clear hfz62_2
                try clear hfz62_3
                try clear hfz64_0
                try clear hfz64_1
                try clear hfz64_2
                try clear hfz64_3
                try clear p2
                try clear p6
                obtain ⟨kq, x73_49, rfl, HA, HJ49, BK732, BK735, HB⟩ := hcut
                cases kq with
                | zero => exact absurd HA.out (by simp [portreevelaw12_AutoEnds.j4])
                | succ kj49 =>
                  have H := HA.out
                  clear HA
                  simp only [portreevelaw12_AutoEnds.j4] at H
                  by_cases c65 : x73_49 = true
                  · subst c65
                    have H1 : (some false) = some r := by rw [if_pos rfl] at H; exact H
                    clear H
                    have H := H1
                    clear H1
                    exact absurd ((Option.some.inj H).trans hlaw_.out) (by decide)
                  · replace c65 := Bool.eq_false_iff.mpr c65
                    subst c65
                    have H1 : (if t733 = true then ((portreeveref11_Timed.f x736000_2).bind fun t748 => (if t748 = true then (some false) else ((auto_Bound.f).bind fun t749 => ((auto_Quiet.f kj49 a0_0 a0_1 a0_2 a0_3 t749).bind fun bt750 => (if (bt750.1 == x736000_2 && (bt750.2.1 == x736001_2 && (bt750.2.2.1 == x736002_2 && (bt750.2.2.2 == x736003_2)))) = true then ((auto_Bound.f).bind fun t754 => ((auto_Quiet.f kj49 a0_0 a0_1 a0_2 a0_3 (wrap64 (t754 + a1))).bind fun bt755 => (if (bt755.1 == x736000_2 && (bt755.2.1 == x736001_2 && (bt755.2.2.1 == x736002_2 && (bt755.2.2.2 == x736003_2)))) = true then ((portreeveref11_Timed.f a0_0).bind fun t759 => (if t759 = true then (some true) else (if (x736000_2 == a0_0 && (x736001_2 == a0_1 && (x736002_2 == a0_2 && (x736003_2 == a0_3)))) = true then (some (x6_2 == 0)) else (some false)))) else (some false)))) else (some false)))))) else (some false)) = some r := by rw [if_neg (show ¬ (false = true) by decide)] at H; exact H
                    clear H
                    have H := H1
                    clear H1
                    by_cases c66 : t733 = true
                    · subst c66
                      have H1 : ((portreeveref11_Timed.f x736000_2).bind fun t748 => (if t748 = true then (some false) else ((auto_Bound.f).bind fun t749 => ((auto_Quiet.f kj49 a0_0 a0_1 a0_2 a0_3 t749).bind fun bt750 => (if (bt750.1 == x736000_2 && (bt750.2.1 == x736001_2 && (bt750.2.2.1 == x736002_2 && (bt750.2.2.2 == x736003_2)))) = true then ((auto_Bound.f).bind fun t754 => ((auto_Quiet.f kj49 a0_0 a0_1 a0_2 a0_3 (wrap64 (t754 + a1))).bind fun bt755 => (if (bt755.1 == x736000_2 && (bt755.2.1 == x736001_2 && (bt755.2.2.1 == x736002_2 && (bt755.2.2.2 == x736003_2)))) = true then ((portreeveref11_Timed.f a0_0).bind fun t759 => (if t759 = true then (some true) else (if (x736000_2 == a0_0 && (x736001_2 == a0_1 && (x736002_2 == a0_2 && (x736003_2 == a0_3)))) = true then (some (x6_2 == 0)) else (some false)))) else (some false)))) else (some false)))))) = some r := by rw [if_pos rfl] at H; exact H
                      clear H
                      have H := H1
                      clear H1
                      replace H := Option.bind_eq_some_iff.mp H
                      obtain ⟨t748, A670, H⟩ := H
                      replace H : (if t748 = true then (some false) else ((auto_Bound.f).bind fun t749 => ((auto_Quiet.f kj49 a0_0 a0_1 a0_2 a0_3 t749).bind fun bt750 => (if (bt750.1 == x736000_2 && (bt750.2.1 == x736001_2 && (bt750.2.2.1 == x736002_2 && (bt750.2.2.2 == x736003_2)))) = true then ((auto_Bound.f).bind fun t754 => ((auto_Quiet.f kj49 a0_0 a0_1 a0_2 a0_3 (wrap64 (t754 + a1))).bind fun bt755 => (if (bt755.1 == x736000_2 && (bt755.2.1 == x736001_2 && (bt755.2.2.1 == x736002_2 && (bt755.2.2.2 == x736003_2)))) = true then ((portreeveref11_Timed.f a0_0).bind fun t759 => (if t759 = true then (some true) else (if (x736000_2 == a0_0 && (x736001_2 == a0_1 && (x736002_2 == a0_2 && (x736003_2 == a0_3)))) = true then (some (x6_2 == 0)) else (some false)))) else (some false)))) else (some false))))) = some r := H
                      have A67 := Aside0.mk A670
                      clear A670
                      by_cases c68 : t748 = true
                      · subst c68
                        have H1 : (some false) = some r := by rw [if_pos rfl] at H; exact H
                        clear H
                        have H := H1
                        clear H1
                        exact absurd ((Option.some.inj H).trans hlaw_.out) (by decide)
                      · replace c68 := Bool.eq_false_iff.mpr c68
                        subst c68
                        have H1 : ((auto_Bound.f).bind fun t749 => ((auto_Quiet.f kj49 a0_0 a0_1 a0_2 a0_3 t749).bind fun bt750 => (if (bt750.1 == x736000_2 && (bt750.2.1 == x736001_2 && (bt750.2.2.1 == x736002_2 && (bt750.2.2.2 == x736003_2)))) = true then ((auto_Bound.f).bind fun t754 => ((auto_Quiet.f kj49 a0_0 a0_1 a0_2 a0_3 (wrap64 (t754 + a1))).bind fun bt755 => (if (bt755.1 == x736000_2 && (bt755.2.1 == x736001_2 && (bt755.2.2.1 == x736002_2 && (bt755.2.2.2 == x736003_2)))) = true then ((portreeveref11_Timed.f a0_0).bind fun t759 => (if t759 = true then (some true) else (if (x736000_2 == a0_0 && (x736001_2 == a0_1 && (x736002_2 == a0_2 && (x736003_2 == a0_3)))) = true then (some (x6_2 == 0)) else (some false)))) else (some false)))) else (some false)))) = some r := by rw [if_neg (show ¬ (false = true) by decide)] at H; exact H
                        clear H
                        have H := H1
                        clear H1
                        replace H := Option.bind_eq_some_iff.mp H
                        obtain ⟨t749, A690, H⟩ := H
                        replace H : ((auto_Quiet.f kj49 a0_0 a0_1 a0_2 a0_3 t749).bind fun bt750 => (if (bt750.1 == x736000_2 && (bt750.2.1 == x736001_2 && (bt750.2.2.1 == x736002_2 && (bt750.2.2.2 == x736003_2)))) = true then ((auto_Bound.f).bind fun t754 => ((auto_Quiet.f kj49 a0_0 a0_1 a0_2 a0_3 (wrap64 (t754 + a1))).bind fun bt755 => (if (bt755.1 == x736000_2 && (bt755.2.1 == x736001_2 && (bt755.2.2.1 == x736002_2 && (bt755.2.2.2 == x736003_2)))) = true then ((portreeveref11_Timed.f a0_0).bind fun t759 => (if t759 = true then (some true) else (if (x736000_2 == a0_0 && (x736001_2 == a0_1 && (x736002_2 == a0_2 && (x736003_2 == a0_3)))) = true then (some (x6_2 == 0)) else (some false)))) else (some false)))) else (some false))) = some r := H
                        have A69 := Aside0.mk A690
                        clear A690
                        replace H := Option.bind_eq_some_iff.mp H
                        obtain ⟨⟨t750, t751, t752, t753⟩, A700, H⟩ := H
                        replace H : (if (t750 == x736000_2 && (t751 == x736001_2 && (t752 == x736002_2 && (t753 == x736003_2)))) = true then ((auto_Bound.f).bind fun t754 => ((auto_Quiet.f kj49 a0_0 a0_1 a0_2 a0_3 (wrap64 (t754 + a1))).bind fun bt755 => (if (bt755.1 == x736000_2 && (bt755.2.1 == x736001_2 && (bt755.2.2.1 == x736002_2 && (bt755.2.2.2 == x736003_2)))) = true then ((portreeveref11_Timed.f a0_0).bind fun t759 => (if t759 = true then (some true) else (if (x736000_2 == a0_0 && (x736001_2 == a0_1 && (x736002_2 == a0_2 && (x736003_2 == a0_3)))) = true then (some (x6_2 == 0)) else (some false)))) else (some false)))) else (some false)) = some r := H
                        have A70 := Aside0.mk A700
                        clear A700
                        by_cases c71 : (t750 == x736000_2 && (t751 == x736001_2 && (t752 == x736002_2 && (t753 == x736003_2)))) = true
                        · rw [if_pos c71] at H
                          have c71b0 : (t750 == x736000_2 && (t751 == x736001_2 && (t752 == x736002_2 && (t753 == x736003_2)))) = true := c71
                          (try (have c71b1 : decide (t750 = x736000_2 && (t751 == x736001_2 && (t752 == x736002_2 && (t753 == x736003_2)))) = true := by simpa using c71))
                          (try (have c71b2 : (t750 == x736000_2 && (t751 == x736001_2 && (t752 == x736002_2 && (t753 == x736003_2)))) = true := by simpa using c71))
                          clear c71
                          replace H := Option.bind_eq_some_iff.mp H
                          obtain ⟨t754, A720, H⟩ := H
                          replace H : ((auto_Quiet.f kj49 a0_0 a0_1 a0_2 a0_3 (wrap64 (t754 + a1))).bind fun bt755 => (if (bt755.1 == x736000_2 && (bt755.2.1 == x736001_2 && (bt755.2.2.1 == x736002_2 && (bt755.2.2.2 == x736003_2)))) = true then ((portreeveref11_Timed.f a0_0).bind fun t759 => (if t759 = true then (some true) else (if (x736000_2 == a0_0 && (x736001_2 == a0_1 && (x736002_2 == a0_2 && (x736003_2 == a0_3)))) = true then (some (x6_2 == 0)) else (some false)))) else (some false))) = some r := H
                          have A72 := Aside0.mk A720
                          clear A720
                          replace H := Option.bind_eq_some_iff.mp H
                          obtain ⟨⟨t755, t756, t757, t758⟩, A730, H⟩ := H
                          replace H : (if (t755 == x736000_2 && (t756 == x736001_2 && (t757 == x736002_2 && (t758 == x736003_2)))) = true then ((portreeveref11_Timed.f a0_0).bind fun t759 => (if t759 = true then (some true) else (if (x736000_2 == a0_0 && (x736001_2 == a0_1 && (x736002_2 == a0_2 && (x736003_2 == a0_3)))) = true then (some (x6_2 == 0)) else (some false)))) else (some false)) = some r := H
                          have A73 := Aside0.mk A730
                          clear A730
                          by_cases c74 : (t755 == x736000_2 && (t756 == x736001_2 && (t757 == x736002_2 && (t758 == x736003_2)))) = true
                          · rw [if_pos c74] at H
                            have c74b0 : (t755 == x736000_2 && (t756 == x736001_2 && (t757 == x736002_2 && (t758 == x736003_2)))) = true := c74
                            (try (have c74b1 : decide (t755 = x736000_2 && (t756 == x736001_2 && (t757 == x736002_2 && (t758 == x736003_2)))) = true := by simpa using c74))
                            (try (have c74b2 : (t755 == x736000_2 && (t756 == x736001_2 && (t757 == x736002_2 && (t758 == x736003_2)))) = true := by simpa using c74))
                            clear c74
                            replace H := Option.bind_eq_some_iff.mp H
                            obtain ⟨t759, A750, H⟩ := H
                            replace H : (if t759 = true then (some true) else (if (x736000_2 == a0_0 && (x736001_2 == a0_1 && (x736002_2 == a0_2 && (x736003_2 == a0_3)))) = true then (some (x6_2 == 0)) else (some false))) = some r := H
                            have A75 := Aside0.mk A750
                            clear A750
                            by_cases c76 : t759 = true
                            · subst c76
                              have H1 : (some true) = some r := by rw [if_pos rfl] at H; exact H
                              clear H
                              have H := H1
                              clear H1
                              clear hlaw_
                              obtain rfl := Option.some.inj H
                              try go_wp2
                              have n0_ := Aside0.mk (qD BK732.out)
                              have n1_ := Aside0.mk (qD BK735.out)
                              have n2_ := Aside0.mk (pD HB.out)
                              clear BK732
                              clear BK735
                              clear HB
                              have BK732 := n0_
                              have BK735 := n1_
                              have HB := n2_
                              clear n0_ n1_ n2_
                              refine start_ (n := 38) (S := fun w' => w'.cell? ⟨gb735, 0, none⟩ = some (.int .i64 x736000_2) ∧ w'.cell? ⟨gb735, 1, none⟩ = some (.int .i64 x736001_2) ∧ w'.cell? ⟨gb735, 2, none⟩ = some (.int .i64 x736002_2) ∧ w'.cell? ⟨gb735, 3, none⟩ = some (.int .u8 x736003_2) ∧ w'.cell? ⟨gb732, 0, none⟩ = some (.int .i64 a0_0) ∧ w'.cell? ⟨gb732, 1, none⟩ = some (.int .i64 a0_1) ∧ w'.cell? ⟨gb732, 2, none⟩ = some (.int .i64 a0_2) ∧ w'.cell? ⟨gb732, 3, none⟩ = some (.int .u8 a0_3)) (ds := []) #[false, false, false, false, false, false, false, false, false, false, false, false, false, false, false, false, false, false, false, false, false, false, false, false, false, false, false, false, false, false, false, false, false, false, false, false, false, false] (by kernel_rfl) rfl rfl ⟨(blk_cell BK735.out 0).trans rfl, (blk_cell BK735.out 1).trans rfl, (blk_cell BK735.out 2).trans rfl, (blk_cell BK735.out 3).trans rfl, (blk_cell BK732.out 0).trans rfl, (blk_cell BK732.out 1).trans rfl, (blk_cell BK732.out 2).trans rfl, (blk_cell BK732.out 3).trans rfl⟩ (fun hHeld => ?_); refine with_tabW portreevelaw12_AutoEnds.tab21 portreevelaw12_AutoEnds.bits21 (fun HT_ HW_ => ?_)
                              generalize wc.drew = w77 at BK732 BK735 HB hHeld ⊢
                              refine pure_ (i := 0) (N := some 74) (v := ?_) (a' := ?_) #[true, false, false, false, false, false, false, false, false, false, false, false, false, false, false, false, false, false, false, false, false, false, false, false, false, false, false, false, false, false, false, false, false, false, false, false, false, false] rfl rfl (any_of HT_.out (by kernel_rfl)) (fun _ _ _ h => h) (Or.inl ⟨by rfl, ?_⟩) ?_ ?_
                              rotate_left
                              · intro w'
                                go_simp
                                with_reducible rfl
                              rotate_left
                              · simp only [Act.put, List.setIfInBounds_toArray, List.set_cons_zero, List.set_cons_succ, i64_w, i32_w]
                                rfl
                              refine pure_ (i := 1) (N := some 75) (v := ?_) (a' := ?_) #[true, true, false, false, false, false, false, false, false, false, false, false, false, false, false, false, false, false, false, false, false, false, false, false, false, false, false, false, false, false, false, false, false, false, false, false, false, false] rfl rfl (any_of HT_.out (by kernel_rfl)) (fun _ _ _ h => h) (Or.inl ⟨by rfl, ?_⟩) ?_ ?_
                              rotate_left
                              · intro w'
                                go_simp
                                with_reducible rfl
                              rotate_left
                              · simp only [Act.put, List.setIfInBounds_toArray, List.set_cons_zero, List.set_cons_succ, i64_w, i32_w]
                                rfl
                              refine pure_ (i := 2) (N := some 76) (v := ?_) (a' := ?_) #[true, true, true, false, false, false, false, false, false, false, false, false, false, false, false, false, false, false, false, false, false, false, false, false, false, false, false, false, false, false, false, false, false, false, false, false, false, false] rfl rfl (any_of HT_.out (by kernel_rfl)) (fun _ _ _ h => h) (Or.inl ⟨by rfl, ?_⟩) ?_ ?_
                              rotate_left
                              · intro w'
                                go_simp
                                with_reducible rfl
                              rotate_left
                              · simp only [Act.put, List.setIfInBounds_toArray, List.set_cons_zero, List.set_cons_succ, i64_w, i32_w]
                                rfl
                              refine take_ (i := 3) (N := some 77) (v := ?_) (a' := ?_) #[true, true, true, true, false, false, false, false, false, false, false, false, false, false, false, false, false, false, false, false, false, false, false, false, false, false, false, false, false, false, false, false, false, false, false, false, false, false] rfl rfl (take_ofW HT_.out HW_.out (by kernel_rfl)) (fun _ _ _ h => h) (Or.inl ⟨by rfl, ?_⟩) hHeld ?_ ?_
                              rotate_left
                              · rintro w' ⟨s0, s1, s2, s3, s4, s5, s6, s7⟩
                                go_simp
                                with_reducible rfl
                              rotate_left
                              · simp only [Act.put, List.setIfInBounds_toArray, List.set_cons_zero, List.set_cons_succ, i64_w, i32_w]
                                rfl
                              refine one_ (i := 4) (N := some 78) #[true, true, true, true, true, false, false, false, false, false, false, false, false, false, false, false, false, false, false, false, false, false, false, false, false, false, false, false, false, false, false, false, false, false, false, false, false, false] rfl rfl (one_of HT_.out (by kernel_rfl)) (by decide) (fun K hK => ?_)
                              refine goes_ Tryd.func21 (by kernel_rfl) rfl #[.int .i64 x736000_2] (by rfl) rfl rfl (by (try simp only [List.map_toArray, List.map_cons, List.map_nil]); first | done | rfl | (simp only [List.length_drop, List.length_take]; rfl)) ?_
                              with_reducible refine (portreeveref11_Timed.calls x736000_2 false _ A67.out).mono ?_
                              rintro e w' ⟨rfl, ⟨nd, rfl⟩⟩
                              refine ⟨_, rfl, ?_⟩
                              refine hK.out _ _ ⟨(blk_cell BK735.out 0).trans rfl, (blk_cell BK735.out 1).trans rfl, (blk_cell BK735.out 2).trans rfl, (blk_cell BK735.out 3).trans rfl, (blk_cell BK732.out 0).trans rfl, (blk_cell BK732.out 1).trans rfl, (blk_cell BK732.out 2).trans rfl, (blk_cell BK732.out 3).trans rfl⟩ (fun hHeld => ?_)
                              clear hK K
                              refine norm_ (a' := ?_) ?_ ?_
                              rotate_left
                              · show Act.put _ (some 78) _ = _
                                simp only [Act.put, List.setIfInBounds_toArray, List.set_cons_zero, List.set_cons_succ, i64_w, i32_w]
                                rfl
                              refine pure_ (i := 5) (N := some 79) (v := ?_) (a' := ?_) #[true, true, true, true, true, true, false, false, false, false, false, false, false, false, false, false, false, false, false, false, false, false, false, false, false, false, false, false, false, false, false, false, false, false, false, false, false, false] rfl rfl (any_of HT_.out (by kernel_rfl)) (fun _ _ _ h => h) (Or.inl ⟨by rfl, ?_⟩) ?_ ?_
                              rotate_left
                              · intro w'
                                go_simp
                                with_reducible rfl
                              rotate_left
                              · simp only [Act.put, List.setIfInBounds_toArray, List.set_cons_zero, List.set_cons_succ, i64_w, i32_w]
                                rfl
                              refine pure_ (i := 6) (N := some 80) (v := ?_) (a' := ?_) #[true, true, true, true, true, true, true, false, false, false, false, false, false, false, false, false, false, false, false, false, false, false, false, false, false, false, false, false, false, false, false, false, false, false, false, false, false, false] rfl rfl (any_of HT_.out (by kernel_rfl)) (fun _ _ _ h => h) (Or.inl ⟨by rfl, ?_⟩) ?_ ?_
                              rotate_left
                              · intro w'
                                go_simp
                                with_reducible rfl
                              rotate_left
                              · simp only [Act.put, List.setIfInBounds_toArray, List.set_cons_zero, List.set_cons_succ, i64_w, i32_w]
                                rfl
                              refine pure_ (i := 7) (N := some 81) (v := ?_) (a' := ?_) #[true, true, true, true, true, true, true, true, false, false, false, false, false, false, false, false, false, false, false, false, false, false, false, false, false, false, false, false, false, false, false, false, false, false, false, false, false, false] rfl rfl (any_of HT_.out (by kernel_rfl)) (fun _ _ _ h => h) (Or.inl ⟨by rfl, ?_⟩) ?_ ?_
                              rotate_left
                              · intro w'
                                go_simp
                                with_reducible rfl
                              rotate_left
                              · simp only [Act.put, List.setIfInBounds_toArray, List.set_cons_zero, List.set_cons_succ, i64_w, i32_w]
                                rfl
                              refine take_ (i := 8) (N := some 82) (v := ?_) (a' := ?_) #[true, true, true, true, true, true, true, true, true, false, false, false, false, false, false, false, false, false, false, false, false, false, false, false, false, false, false, false, false, false, false, false, false, false, false, false, false, false] rfl rfl (take_ofW HT_.out HW_.out (by kernel_rfl)) (fun _ _ _ h => h) (Or.inl ⟨by rfl, ?_⟩) hHeld ?_ ?_
                              rotate_left
                              · rintro w' ⟨s0, s1, s2, s3, s4, s5, s6, s7⟩
                                go_simp
                                with_reducible rfl
                              rotate_left
                              · simp only [Act.put, List.setIfInBounds_toArray, List.set_cons_zero, List.set_cons_succ, i64_w, i32_w]
                                rfl
                              refine take_ (i := 11) (N := some 85) (v := ?_) (a' := ?_) #[true, true, true, true, true, true, true, true, true, false, false, true, false, false, false, false, false, false, false, false, false, false, false, false, false, false, false, false, false, false, false, false, false, false, false, false, false, false] rfl rfl (take_ofW HT_.out HW_.out (by kernel_rfl)) (fun _ _ _ h => h) (Or.inl ⟨by rfl, ?_⟩) hHeld ?_ ?_
                              rotate_left
                              · rintro w' ⟨s0, s1, s2, s3, s4, s5, s6, s7⟩
                                go_simp
                                with_reducible rfl
                              rotate_left
                              · simp only [Act.put, List.setIfInBounds_toArray, List.set_cons_zero, List.set_cons_succ, i64_w, i32_w]
                                rfl
                              refine one_ (i := 9) (N := some 83) #[true, true, true, true, true, true, true, true, true, true, false, true, false, false, false, false, false, false, false, false, false, false, false, false, false, false, false, false, false, false, false, false, false, false, false, false, false, false] rfl rfl (one_of HT_.out (by kernel_rfl)) (by decide) (fun K hK => ?_)
                              refine goes_ Tryd.func12 (by kernel_rfl) rfl #[] (by rfl) rfl rfl (by (try simp only [List.map_toArray, List.map_cons, List.map_nil]); first | done | rfl | (simp only [List.length_drop, List.length_take]; rfl)) ?_
                              with_reducible refine (auto_Bound.calls  t749 _ A69.out).mono ?_
                              rintro e w' ⟨rfl, ⟨nd, rfl⟩⟩
                              refine ⟨_, rfl, ?_⟩
                              refine hK.out _ _ ⟨(blk_cell BK735.out 0).trans rfl, (blk_cell BK735.out 1).trans rfl, (blk_cell BK735.out 2).trans rfl, (blk_cell BK735.out 3).trans rfl, (blk_cell BK732.out 0).trans rfl, (blk_cell BK732.out 1).trans rfl, (blk_cell BK732.out 2).trans rfl, (blk_cell BK732.out 3).trans rfl⟩ (fun hHeld => ?_)
                              clear hK K
                              refine norm_ (a' := ?_) ?_ ?_
                              rotate_left
                              · show Act.put _ (some 83) _ = _
                                simp only [Act.put, List.setIfInBounds_toArray, List.set_cons_zero, List.set_cons_succ, i64_w, i32_w]
                                rfl
                              refine one_ (i := 10) (N := some 84) #[true, true, true, true, true, true, true, true, true, true, true, true, false, false, false, false, false, false, false, false, false, false, false, false, false, false, false, false, false, false, false, false, false, false, false, false, false, false] rfl rfl (one_of HT_.out (by kernel_rfl)) (by decide) (fun K hK => ?_)
                              refine goes_ Tryd.func18 (by kernel_rfl) rfl #[.agg #[.int .i64 a0_0, .int .i64 a0_1, .int .i64 a0_2, .int .u8 a0_3], .int .i64 t749] (by rfl) rfl rfl (by (try simp only [List.map_toArray, List.map_cons, List.map_nil]); first | done | rfl | (simp only [List.length_drop, List.length_take]; rfl)) ?_
                              with_reducible refine (auto_Quiet.calls kj49 a0_0 a0_1 a0_2 a0_3 t749 t750 t751 t752 t753 _ ?side1 A70.out).mono ?_
                              (case side1 => exact (HGL.out.below (by repeat (first | (with_reducible first | exact HB.out | apply pA | apply pN | apply pD | refine pS ?_ GE732.out | refine pS ?_ GE735.out) | exact HB.out))))
                              rintro e w78 ⟨rfl, hb⟩
                              refine ⟨_, rfl, ?_⟩
                              have n0_ := Aside0.mk (blk_below (g := gb732) (o := .cells #[.int .i64 a0_0, .int .i64 a0_1, .int .i64 a0_2, .int .u8 a0_3] 23 (0, 0)) (by (with_reducible repeat (first | refine qN ?_ _ | refine qD ?_ | refine qA ?_ _)); exact BK732.out) hb)
                              have n1_ := Aside0.mk (blk_below (g := gb735) (o := .cells #[.int .i64 x736000_2, .int .i64 x736001_2, .int .i64 x736002_2, .int .u8 x736003_2] 23 (0, 0)) (by (with_reducible repeat (first | refine qN ?_ _ | refine qD ?_ | refine qA ?_ _)); exact BK735.out) hb)
                              have n2_ := Aside0.mk (below_step (by repeat (first | (with_reducible first | exact HB.out | apply pA | apply pN | apply pD | refine pS ?_ GE732.out | refine pS ?_ GE735.out) | exact HB.out)) hb)
                              clear BK732
                              clear BK735
                              clear HB
                              have BK732 := n0_
                              have BK735 := n1_
                              have HB := n2_
                              clear n0_ n1_ n2_
                              (try clear hb)
                              (try clear hb2)
                              (try clear hk)
                              (try clear hi)
                              refine hK.out _ _ ⟨(blk_cell BK735.out 0).trans rfl, (blk_cell BK735.out 1).trans rfl, (blk_cell BK735.out 2).trans rfl, (blk_cell BK735.out 3).trans rfl, (blk_cell BK732.out 0).trans rfl, (blk_cell BK732.out 1).trans rfl, (blk_cell BK732.out 2).trans rfl, (blk_cell BK732.out 3).trans rfl⟩ (fun hHeld => ?_)
                              clear hK K
                              refine norm_ (a' := ?_) ?_ ?_
                              rotate_left
                              · show Act.put _ (some 84) _ = _
                                simp only [Act.put, List.setIfInBounds_toArray, List.set_cons_zero, List.set_cons_succ, i64_w, i32_w]
                                rfl
                              refine pure_ (i := 12) (N := some 86) (v := ?_) (a' := ?_) #[true, true, true, true, true, true, true, true, true, true, true, true, true, false, false, false, false, false, false, false, false, false, false, false, false, false, false, false, false, false, false, false, false, false, false, false, false, false] rfl rfl (any_of HT_.out (by kernel_rfl)) (fun _ _ _ h => h) (Or.inl ⟨by rfl, ?_⟩) ?_ ?_
                              rotate_left
                              · intro w'
                                go_simp
                                with_reducible rfl
                              rotate_left
                              · simp only [Act.put, List.setIfInBounds_toArray, List.set_cons_zero, List.set_cons_succ, i64_w, i32_w]
                                rfl
                              refine pure_ (i := 13) (N := some 87) (v := ?_) (a' := ?_) #[true, true, true, true, true, true, true, true, true, true, true, true, true, true, false, false, false, false, false, false, false, false, false, false, false, false, false, false, false, false, false, false, false, false, false, false, false, false] rfl rfl (any_of HT_.out (by kernel_rfl)) (fun _ _ _ h => h) (Or.inl ⟨by rfl, ?_⟩) ?_ ?_
                              rotate_left
                              · intro w'
                                go_simp
                                with_reducible rfl
                              rotate_left
                              · simp only [Act.put, List.setIfInBounds_toArray, List.set_cons_zero, List.set_cons_succ, i64_w, i32_w]
                                rfl
                              refine pure_ (i := 14) (N := some 88) (v := ?_) (a' := ?_) #[true, true, true, true, true, true, true, true, true, true, true, true, true, true, true, false, false, false, false, false, false, false, false, false, false, false, false, false, false, false, false, false, false, false, false, false, false, false] rfl rfl (any_of HT_.out (by kernel_rfl)) (fun _ _ _ h => h) (Or.inl ⟨by rfl, ?_⟩) ?_ ?_
                              rotate_left
                              · intro w'
                                go_simp
                                with_reducible rfl
                              rotate_left
                              · simp only [Act.put, List.setIfInBounds_toArray, List.set_cons_zero, List.set_cons_succ, i64_w, i32_w]
                                rfl
                              refine pure_ (i := 17) (N := some 91) (v := ?_) (a' := ?_) #[true, true, true, true, true, true, true, true, true, true, true, true, true, true, true, false, false, true, false, false, false, false, false, false, false, false, false, false, false, false, false, false, false, false, false, false, false, false] rfl rfl (any_of HT_.out (by kernel_rfl)) (fun _ _ _ h => h) (Or.inl ⟨by rfl, ?_⟩) ?_ ?_
                              rotate_left
                              · intro w'
                                go_simp
                                with_reducible rfl
                              rotate_left
                              · simp only [Act.put, List.setIfInBounds_toArray, List.set_cons_zero, List.set_cons_succ, i64_w, i32_w]
                                rfl
                              refine take_ (i := 15) (N := some 89) (v := ?_) (a' := ?_) #[true, true, true, true, true, true, true, true, true, true, true, true, true, true, true, true, false, true, false, false, false, false, false, false, false, false, false, false, false, false, false, false, false, false, false, false, false, false] rfl rfl (take_ofW HT_.out HW_.out (by kernel_rfl)) (fun _ _ _ h => h) (Or.inl ⟨by rfl, ?_⟩) hHeld ?_ ?_
                              rotate_left
                              · rintro w' ⟨s0, s1, s2, s3, s4, s5, s6, s7⟩
                                go_simp
                                with_reducible rfl
                              rotate_left
                              · simp only [Act.put, List.setIfInBounds_toArray, List.set_cons_zero, List.set_cons_succ, i64_w, i32_w]
                                rfl
                              refine take_ (i := 20) (N := some 94) (v := ?_) (a' := ?_) #[true, true, true, true, true, true, true, true, true, true, true, true, true, true, true, true, false, true, false, false, true, false, false, false, false, false, false, false, false, false, false, false, false, false, false, false, false, false] rfl rfl (take_ofW HT_.out HW_.out (by kernel_rfl)) (fun _ _ _ h => h) (Or.inl ⟨by rfl, ?_⟩) hHeld ?_ ?_
                              rotate_left
                              · rintro w' ⟨s0, s1, s2, s3, s4, s5, s6, s7⟩
                                go_simp
                                with_reducible rfl
                              rotate_left
                              · simp only [Act.put, List.setIfInBounds_toArray, List.set_cons_zero, List.set_cons_succ, i64_w, i32_w]
                                rfl
                              refine one_ (i := 16) (N := some 90) #[true, true, true, true, true, true, true, true, true, true, true, true, true, true, true, true, true, true, false, false, true, false, false, false, false, false, false, false, false, false, false, false, false, false, false, false, false, false] rfl rfl (one_of HT_.out (by kernel_rfl)) (by decide) (fun K hK => ?_)
                              refine goes_ Tryd.func12 (by kernel_rfl) rfl #[] (by rfl) rfl rfl (by (try simp only [List.map_toArray, List.map_cons, List.map_nil]); first | done | rfl | (simp only [List.length_drop, List.length_take]; rfl)) ?_
                              with_reducible refine (auto_Bound.calls  t754 _ A72.out).mono ?_
                              rintro e w' ⟨rfl, ⟨nd, rfl⟩⟩
                              refine ⟨_, rfl, ?_⟩
                              refine hK.out _ _ ⟨(blk_cell BK735.out 0).trans rfl, (blk_cell BK735.out 1).trans rfl, (blk_cell BK735.out 2).trans rfl, (blk_cell BK735.out 3).trans rfl, (blk_cell BK732.out 0).trans rfl, (blk_cell BK732.out 1).trans rfl, (blk_cell BK732.out 2).trans rfl, (blk_cell BK732.out 3).trans rfl⟩ (fun hHeld => ?_)
                              clear hK K
                              refine norm_ (a' := ?_) ?_ ?_
                              rotate_left
                              · show Act.put _ (some 90) _ = _
                                simp only [Act.put, List.setIfInBounds_toArray, List.set_cons_zero, List.set_cons_succ, i64_w, i32_w]
                                rfl
                              refine pure_ (i := 18) (N := some 92) (v := ?_) (a' := ?_) #[true, true, true, true, true, true, true, true, true, true, true, true, true, true, true, true, true, true, true, false, true, false, false, false, false, false, false, false, false, false, false, false, false, false, false, false, false, false] rfl rfl (any_of HT_.out (by kernel_rfl)) (fun _ _ _ h => h) (Or.inl ⟨by rfl, ?_⟩) ?_ ?_
                              rotate_left
                              · intro w'
                                go_simp
                                with_reducible rfl
                              rotate_left
                              · simp only [Act.put, List.setIfInBounds_toArray, List.set_cons_zero, List.set_cons_succ, i64_w, i32_w]
                                rfl
                              refine one_ (i := 19) (N := some 93) #[true, true, true, true, true, true, true, true, true, true, true, true, true, true, true, true, true, true, true, true, true, false, false, false, false, false, false, false, false, false, false, false, false, false, false, false, false, false] rfl rfl (one_of HT_.out (by kernel_rfl)) (by decide) (fun K hK => ?_)
                              refine goes_ Tryd.func18 (by kernel_rfl) rfl #[.agg #[.int .i64 a0_0, .int .i64 a0_1, .int .i64 a0_2, .int .u8 a0_3], .int .i64 (wrap64 (t754 + a1))] (by rfl) rfl rfl (by (try simp only [List.map_toArray, List.map_cons, List.map_nil]); first | done | rfl | (simp only [List.length_drop, List.length_take]; rfl)) ?_
                              with_reducible refine (auto_Quiet.calls kj49 a0_0 a0_1 a0_2 a0_3 (wrap64 (t754 + a1)) t755 t756 t757 t758 _ ?side1 A73.out).mono ?_
                              (case side1 => exact (HGL.out.below (by repeat (first | (with_reducible first | exact HB.out | apply pA | apply pN | apply pD | refine pS ?_ GE732.out | refine pS ?_ GE735.out) | exact HB.out))))
                              rintro e w79 ⟨rfl, hb⟩
                              refine ⟨_, rfl, ?_⟩
                              have n0_ := Aside0.mk (blk_below (g := gb732) (o := .cells #[.int .i64 a0_0, .int .i64 a0_1, .int .i64 a0_2, .int .u8 a0_3] 23 (0, 0)) (by (with_reducible repeat (first | refine qN ?_ _ | refine qD ?_ | refine qA ?_ _)); exact BK732.out) hb)
                              have n1_ := Aside0.mk (blk_below (g := gb735) (o := .cells #[.int .i64 x736000_2, .int .i64 x736001_2, .int .i64 x736002_2, .int .u8 x736003_2] 23 (0, 0)) (by (with_reducible repeat (first | refine qN ?_ _ | refine qD ?_ | refine qA ?_ _)); exact BK735.out) hb)
                              have n2_ := Aside0.mk (below_step (by repeat (first | (with_reducible first | exact HB.out | apply pA | apply pN | apply pD | refine pS ?_ GE732.out | refine pS ?_ GE735.out) | exact HB.out)) hb)
                              clear BK732
                              clear BK735
                              clear HB
                              have BK732 := n0_
                              have BK735 := n1_
                              have HB := n2_
                              clear n0_ n1_ n2_
                              (try clear hb)
                              (try clear hb2)
                              (try clear hk)
                              (try clear hi)
                              refine hK.out _ _ ⟨(blk_cell BK735.out 0).trans rfl, (blk_cell BK735.out 1).trans rfl, (blk_cell BK735.out 2).trans rfl, (blk_cell BK735.out 3).trans rfl, (blk_cell BK732.out 0).trans rfl, (blk_cell BK732.out 1).trans rfl, (blk_cell BK732.out 2).trans rfl, (blk_cell BK732.out 3).trans rfl⟩ (fun hHeld => ?_)
                              clear hK K
                              refine norm_ (a' := ?_) ?_ ?_
                              rotate_left
                              · show Act.put _ (some 93) _ = _
                                simp only [Act.put, List.setIfInBounds_toArray, List.set_cons_zero, List.set_cons_succ, i64_w, i32_w]
                                rfl
                              refine pure_ (i := 21) (N := some 95) (v := ?_) (a' := ?_) #[true, true, true, true, true, true, true, true, true, true, true, true, true, true, true, true, true, true, true, true, true, true, false, false, false, false, false, false, false, false, false, false, false, false, false, false, false, false] rfl rfl (any_of HT_.out (by kernel_rfl)) (fun _ _ _ h => h) (Or.inl ⟨by rfl, ?_⟩) ?_ ?_
                              rotate_left
                              · intro w'
                                go_simp
                                with_reducible rfl
                              rotate_left
                              · simp only [Act.put, List.setIfInBounds_toArray, List.set_cons_zero, List.set_cons_succ, i64_w, i32_w]
                                rfl
                              refine pure_ (i := 22) (N := some 96) (v := ?_) (a' := ?_) #[true, true, true, true, true, true, true, true, true, true, true, true, true, true, true, true, true, true, true, true, true, true, true, false, false, false, false, false, false, false, false, false, false, false, false, false, false, false] rfl rfl (any_of HT_.out (by kernel_rfl)) (fun _ _ _ h => h) (Or.inl ⟨by rfl, ?_⟩) ?_ ?_
                              rotate_left
                              · intro w'
                                go_simp
                                with_reducible rfl
                              rotate_left
                              · simp only [Act.put, List.setIfInBounds_toArray, List.set_cons_zero, List.set_cons_succ, i64_w, i32_w]
                                rfl
                              refine pure_ (i := 23) (N := some 97) (v := ?_) (a' := ?_) #[true, true, true, true, true, true, true, true, true, true, true, true, true, true, true, true, true, true, true, true, true, true, true, true, false, false, false, false, false, false, false, false, false, false, false, false, false, false] rfl rfl (any_of HT_.out (by kernel_rfl)) (fun _ _ _ h => h) (Or.inl ⟨by rfl, ?_⟩) ?_ ?_
                              rotate_left
                              · intro w'
                                go_simp
                                with_reducible rfl
                              rotate_left
                              · simp only [Act.put, List.setIfInBounds_toArray, List.set_cons_zero, List.set_cons_succ, i64_w, i32_w]
                                rfl
                              refine pure_ (i := 24) (N := some 98) (v := ?_) (a' := ?_) #[true, true, true, true, true, true, true, true, true, true, true, true, true, true, true, true, true, true, true, true, true, true, true, true, true, false, false, false, false, false, false, false, false, false, false, false, false, false] rfl rfl (any_of HT_.out (by kernel_rfl)) (fun _ _ _ h => h) (Or.inl ⟨by rfl, ?_⟩) ?_ ?_
                              rotate_left
                              · intro w'
                                go_simp
                                with_reducible rfl
                              rotate_left
                              · simp only [Act.put, List.setIfInBounds_toArray, List.set_cons_zero, List.set_cons_succ, i64_w, i32_w]
                                rfl
                              refine take_ (i := 25) (N := some 99) (v := ?_) (a' := ?_) #[true, true, true, true, true, true, true, true, true, true, true, true, true, true, true, true, true, true, true, true, true, true, true, true, true, true, false, false, false, false, false, false, false, false, false, false, false, false] rfl rfl (take_ofW HT_.out HW_.out (by kernel_rfl)) (fun _ _ _ h => h) (Or.inl ⟨by rfl, ?_⟩) hHeld ?_ ?_
                              rotate_left
                              · rintro w' ⟨s0, s1, s2, s3, s4, s5, s6, s7⟩
                                go_simp
                                with_reducible rfl
                              rotate_left
                              · simp only [Act.put, List.setIfInBounds_toArray, List.set_cons_zero, List.set_cons_succ, i64_w, i32_w]
                                rfl
                              refine one_ (i := 26) (N := some 100) #[true, true, true, true, true, true, true, true, true, true, true, true, true, true, true, true, true, true, true, true, true, true, true, true, true, true, true, false, false, false, false, false, false, false, false, false, false, false] rfl rfl (one_of HT_.out (by kernel_rfl)) (by decide) (fun K hK => ?_)
                              refine goes_ Tryd.func21 (by kernel_rfl) rfl #[.int .i64 a0_0] (by rfl) rfl rfl (by (try simp only [List.map_toArray, List.map_cons, List.map_nil]); first | done | rfl | (simp only [List.length_drop, List.length_take]; rfl)) ?_
                              with_reducible refine (portreeveref11_Timed.calls a0_0 true _ A75.out).mono ?_
                              rintro e w' ⟨rfl, ⟨nd, rfl⟩⟩
                              refine ⟨_, rfl, ?_⟩
                              refine hK.out _ _ ⟨(blk_cell BK735.out 0).trans rfl, (blk_cell BK735.out 1).trans rfl, (blk_cell BK735.out 2).trans rfl, (blk_cell BK735.out 3).trans rfl, (blk_cell BK732.out 0).trans rfl, (blk_cell BK732.out 1).trans rfl, (blk_cell BK732.out 2).trans rfl, (blk_cell BK732.out 3).trans rfl⟩ (fun hHeld => ?_)
                              clear hK K
                              refine norm_ (a' := ?_) ?_ ?_
                              rotate_left
                              · show Act.put _ (some 100) _ = _
                                simp only [Act.put, List.setIfInBounds_toArray, List.set_cons_zero, List.set_cons_succ, i64_w, i32_w]
                                rfl
                              refine pure_ (i := 27) (N := some 101) (v := ?_) (a' := ?_) #[true, true, true, true, true, true, true, true, true, true, true, true, true, true, true, true, true, true, true, true, true, true, true, true, true, true, true, true, false, false, false, false, false, false, false, false, false, false] rfl rfl (any_of HT_.out (by kernel_rfl)) (fun _ _ _ h => h) (Or.inl ⟨by rfl, ?_⟩) ?_ ?_
                              rotate_left
                              · intro w'
                                go_simp
                                with_reducible rfl
                              rotate_left
                              · simp only [Act.put, List.setIfInBounds_toArray, List.set_cons_zero, List.set_cons_succ, i64_w, i32_w]
                                rfl
                              refine pure_ (i := 28) (N := some 102) (v := undef) (a' := ?_) #[true, true, true, true, true, true, true, true, true, true, true, true, true, true, true, true, true, true, true, true, true, true, true, true, true, true, true, true, true, false, false, false, false, false, false, false, false, false] rfl rfl (any_of HT_.out (by kernel_rfl)) (fun _ _ _ h => h) (Or.inr ⟨by rfl, rfl⟩) ?_ ?_
                              rotate_left
                              · simp only [Act.put, List.setIfInBounds_toArray, List.set_cons_zero, List.set_cons_succ, i64_w, i32_w]
                                rfl
                              refine pure_ (i := 29) (N := some 103) (v := undef) (a' := ?_) #[true, true, true, true, true, true, true, true, true, true, true, true, true, true, true, true, true, true, true, true, true, true, true, true, true, true, true, true, true, true, false, false, false, false, false, false, false, false] rfl rfl (any_of HT_.out (by kernel_rfl)) (fun _ _ _ h => h) (Or.inr ⟨by rfl, rfl⟩) ?_ ?_
                              rotate_left
                              · simp only [Act.put, List.setIfInBounds_toArray, List.set_cons_zero, List.set_cons_succ, i64_w, i32_w]
                                rfl
                              refine pure_ (i := 30) (N := some 104) (v := undef) (a' := ?_) #[true, true, true, true, true, true, true, true, true, true, true, true, true, true, true, true, true, true, true, true, true, true, true, true, true, true, true, true, true, true, true, false, false, false, false, false, false, false] rfl rfl (any_of HT_.out (by kernel_rfl)) (fun _ _ _ h => h) (Or.inr ⟨by rfl, rfl⟩) ?_ ?_
                              rotate_left
                              · simp only [Act.put, List.setIfInBounds_toArray, List.set_cons_zero, List.set_cons_succ, i64_w, i32_w]
                                rfl
                              refine pure_ (i := 31) (N := some 105) (v := undef) (a' := ?_) #[true, true, true, true, true, true, true, true, true, true, true, true, true, true, true, true, true, true, true, true, true, true, true, true, true, true, true, true, true, true, true, true, false, false, false, false, false, false] rfl rfl (any_of HT_.out (by kernel_rfl)) (fun _ _ _ h => h) (Or.inr ⟨by rfl, rfl⟩) ?_ ?_
                              rotate_left
                              · simp only [Act.put, List.setIfInBounds_toArray, List.set_cons_zero, List.set_cons_succ, i64_w, i32_w]
                                rfl
                              refine pure_ (i := 32) (N := some 106) (v := undef) (a' := ?_) #[true, true, true, true, true, true, true, true, true, true, true, true, true, true, true, true, true, true, true, true, true, true, true, true, true, true, true, true, true, true, true, true, true, false, false, false, false, false] rfl rfl (any_of HT_.out (by kernel_rfl)) (fun _ _ _ h => h) (Or.inr ⟨by rfl, rfl⟩) ?_ ?_
                              rotate_left
                              · simp only [Act.put, List.setIfInBounds_toArray, List.set_cons_zero, List.set_cons_succ, i64_w, i32_w]
                                rfl
                              refine pure_ (i := 33) (N := some 107) (v := undef) (a' := ?_) #[true, true, true, true, true, true, true, true, true, true, true, true, true, true, true, true, true, true, true, true, true, true, true, true, true, true, true, true, true, true, true, true, true, true, false, false, false, false] rfl rfl (any_of HT_.out (by kernel_rfl)) (fun _ _ _ h => h) (Or.inr ⟨by rfl, rfl⟩) ?_ ?_
                              rotate_left
                              · simp only [Act.put, List.setIfInBounds_toArray, List.set_cons_zero, List.set_cons_succ, i64_w, i32_w]
                                rfl
                              refine pure_ (i := 34) (N := some 108) (v := undef) (a' := ?_) #[true, true, true, true, true, true, true, true, true, true, true, true, true, true, true, true, true, true, true, true, true, true, true, true, true, true, true, true, true, true, true, true, true, true, true, false, false, false] rfl rfl (any_of HT_.out (by kernel_rfl)) (fun _ _ _ h => h) (Or.inr ⟨by rfl, rfl⟩) ?_ ?_
                              rotate_left
                              · simp only [Act.put, List.setIfInBounds_toArray, List.set_cons_zero, List.set_cons_succ, i64_w, i32_w]
                                rfl
                              refine pure_ (i := 35) (N := some 109) (v := ?_) (a' := ?_) #[true, true, true, true, true, true, true, true, true, true, true, true, true, true, true, true, true, true, true, true, true, true, true, true, true, true, true, true, true, true, true, true, true, true, true, true, false, false] rfl rfl (any_of HT_.out (by kernel_rfl)) (fun _ _ _ h => h) (Or.inl ⟨by rfl, ?_⟩) ?_ ?_
                              rotate_left
                              · intro w'
                                go_simp
                                with_reducible rfl
                              rotate_left
                              · simp only [Act.put, List.setIfInBounds_toArray, List.set_cons_zero, List.set_cons_succ, i64_w, i32_w]
                                rfl
                              refine pure_ (i := 36) (N := some 110) (v := ?_) (a' := ?_) #[true, true, true, true, true, true, true, true, true, true, true, true, true, true, true, true, true, true, true, true, true, true, true, true, true, true, true, true, true, true, true, true, true, true, true, true, true, false] rfl rfl (any_of HT_.out (by kernel_rfl)) (fun _ _ _ h => h) (Or.inl ⟨by rfl, ?_⟩) ?_ ?_
                              rotate_left
                              · intro w'
                                go_simp
                                with_reducible rfl
                              rotate_left
                              · simp only [Act.put, List.setIfInBounds_toArray, List.set_cons_zero, List.set_cons_succ, i64_w, i32_w]
                                rfl
                              refine pure_ (i := 37) (N := some 4) (v := ?_) (a' := ?_) #[true, true, true, true, true, true, true, true, true, true, true, true, true, true, true, true, true, true, true, true, true, true, true, true, true, true, true, true, true, true, true, true, true, true, true, true, true, true] rfl rfl (any_of HT_.out (by kernel_rfl)) (fun _ _ _ h => h) (Or.inl ⟨by rfl, ?_⟩) ?_ ?_
                              rotate_left
                              · intro w'
                                go_simp
                                with_reducible rfl
                              rotate_left
                              · simp only [Act.put, List.setIfInBounds_toArray, List.set_cons_zero, List.set_cons_succ, i64_w, i32_w]
                                rfl
                              refine done_ (done_of HT_.out (by kernel_rfl)) ?_
                              try go_wp2
                              go_ret
                              exact ⟨by first | rfl | (simp [errW_none, errW_some] <;> rfl) | (simp [*, errW_none, errW_some] <;> rfl), by repeat (first | (with_reducible first | exact HB.out | apply pA | apply pN | apply pD | refine pS ?_ GE732.out | refine pS ?_ GE735.out) | exact HB.out)⟩
                            · replace c76 := Bool.eq_false_iff.mpr c76
                              subst c76
                              have H1 : (if (x736000_2 == a0_0 && (x736001_2 == a0_1 && (x736002_2 == a0_2 && (x736003_2 == a0_3)))) = true then (some (x6_2 == 0)) else (some false)) = some r := by rw [if_neg (show ¬ (false = true) by decide)] at H; exact H
                              clear H
                              have H := H1
                              clear H1
                              by_cases c80 : (x736000_2 == a0_0 && (x736001_2 == a0_1 && (x736002_2 == a0_2 && (x736003_2 == a0_3)))) = true
                              · rw [if_pos c80] at H
                                have c80b0 : (x736000_2 == a0_0 && (x736001_2 == a0_1 && (x736002_2 == a0_2 && (x736003_2 == a0_3)))) = true := c80
                                (try (have c80b1 : decide (x736000_2 = a0_0 && (x736001_2 == a0_1 && (x736002_2 == a0_2 && (x736003_2 == a0_3)))) = true := by simpa using c80))
                                (try (have c80b2 : (x736000_2 == a0_0 && (x736001_2 == a0_1 && (x736002_2 == a0_2 && (x736003_2 == a0_3)))) = true := by simpa using c80))
                                clear c80
                                clear hlaw_
                                obtain rfl := Option.some.inj H
                                try go_wp2
                                have n0_ := Aside0.mk (qD BK732.out)
                                have n1_ := Aside0.mk (qD BK735.out)
                                have n2_ := Aside0.mk (pD HB.out)
                                clear BK732
                                clear BK735
                                clear HB
                                have BK732 := n0_
                                have BK735 := n1_
                                have HB := n2_
                                clear n0_ n1_ n2_
                                refine start_ (n := 38) (S := fun w' => w'.cell? ⟨gb735, 0, none⟩ = some (.int .i64 x736000_2) ∧ w'.cell? ⟨gb735, 1, none⟩ = some (.int .i64 x736001_2) ∧ w'.cell? ⟨gb735, 2, none⟩ = some (.int .i64 x736002_2) ∧ w'.cell? ⟨gb735, 3, none⟩ = some (.int .u8 x736003_2) ∧ w'.cell? ⟨gb732, 0, none⟩ = some (.int .i64 a0_0) ∧ w'.cell? ⟨gb732, 1, none⟩ = some (.int .i64 a0_1) ∧ w'.cell? ⟨gb732, 2, none⟩ = some (.int .i64 a0_2) ∧ w'.cell? ⟨gb732, 3, none⟩ = some (.int .u8 a0_3)) (ds := []) #[false, false, false, false, false, false, false, false, false, false, false, false, false, false, false, false, false, false, false, false, false, false, false, false, false, false, false, false, false, false, false, false, false, false, false, false, false, false] (by kernel_rfl) rfl rfl ⟨(blk_cell BK735.out 0).trans rfl, (blk_cell BK735.out 1).trans rfl, (blk_cell BK735.out 2).trans rfl, (blk_cell BK735.out 3).trans rfl, (blk_cell BK732.out 0).trans rfl, (blk_cell BK732.out 1).trans rfl, (blk_cell BK732.out 2).trans rfl, (blk_cell BK732.out 3).trans rfl⟩ (fun hHeld => ?_); refine with_tabW portreevelaw12_AutoEnds.tab21 portreevelaw12_AutoEnds.bits21 (fun HT_ HW_ => ?_)
                                generalize wc.drew = w81 at BK732 BK735 HB hHeld ⊢
                                refine pure_ (i := 0) (N := some 74) (v := ?_) (a' := ?_) #[true, false, false, false, false, false, false, false, false, false, false, false, false, false, false, false, false, false, false, false, false, false, false, false, false, false, false, false, false, false, false, false, false, false, false, false, false, false] rfl rfl (any_of HT_.out (by kernel_rfl)) (fun _ _ _ h => h) (Or.inl ⟨by rfl, ?_⟩) ?_ ?_
                                rotate_left
                                · intro w'
                                  go_simp
                                  with_reducible rfl
                                rotate_left
                                · simp only [Act.put, List.setIfInBounds_toArray, List.set_cons_zero, List.set_cons_succ, i64_w, i32_w]
                                  rfl
                                refine pure_ (i := 1) (N := some 75) (v := ?_) (a' := ?_) #[true, true, false, false, false, false, false, false, false, false, false, false, false, false, false, false, false, false, false, false, false, false, false, false, false, false, false, false, false, false, false, false, false, false, false, false, false, false] rfl rfl (any_of HT_.out (by kernel_rfl)) (fun _ _ _ h => h) (Or.inl ⟨by rfl, ?_⟩) ?_ ?_
                                rotate_left
                                · intro w'
                                  go_simp
                                  with_reducible rfl
                                rotate_left
                                · simp only [Act.put, List.setIfInBounds_toArray, List.set_cons_zero, List.set_cons_succ, i64_w, i32_w]
                                  rfl
                                refine pure_ (i := 2) (N := some 76) (v := ?_) (a' := ?_) #[true, true, true, false, false, false, false, false, false, false, false, false, false, false, false, false, false, false, false, false, false, false, false, false, false, false, false, false, false, false, false, false, false, false, false, false, false, false] rfl rfl (any_of HT_.out (by kernel_rfl)) (fun _ _ _ h => h) (Or.inl ⟨by rfl, ?_⟩) ?_ ?_
                                rotate_left
                                · intro w'
                                  go_simp
                                  with_reducible rfl
                                rotate_left
                                · simp only [Act.put, List.setIfInBounds_toArray, List.set_cons_zero, List.set_cons_succ, i64_w, i32_w]
                                  rfl
                                refine take_ (i := 3) (N := some 77) (v := ?_) (a' := ?_) #[true, true, true, true, false, false, false, false, false, false, false, false, false, false, false, false, false, false, false, false, false, false, false, false, false, false, false, false, false, false, false, false, false, false, false, false, false, false] rfl rfl (take_ofW HT_.out HW_.out (by kernel_rfl)) (fun _ _ _ h => h) (Or.inl ⟨by rfl, ?_⟩) hHeld ?_ ?_
                                rotate_left
                                · rintro w' ⟨s0, s1, s2, s3, s4, s5, s6, s7⟩
                                  go_simp
                                  with_reducible rfl
                                rotate_left
                                · simp only [Act.put, List.setIfInBounds_toArray, List.set_cons_zero, List.set_cons_succ, i64_w, i32_w]
                                  rfl
                                refine one_ (i := 4) (N := some 78) #[true, true, true, true, true, false, false, false, false, false, false, false, false, false, false, false, false, false, false, false, false, false, false, false, false, false, false, false, false, false, false, false, false, false, false, false, false, false] rfl rfl (one_of HT_.out (by kernel_rfl)) (by decide) (fun K hK => ?_)
                                refine goes_ Tryd.func21 (by kernel_rfl) rfl #[.int .i64 x736000_2] (by rfl) rfl rfl (by (try simp only [List.map_toArray, List.map_cons, List.map_nil]); first | done | rfl | (simp only [List.length_drop, List.length_take]; rfl)) ?_
                                with_reducible refine (portreeveref11_Timed.calls x736000_2 false _ A67.out).mono ?_
                                rintro e w' ⟨rfl, ⟨nd, rfl⟩⟩
                                refine ⟨_, rfl, ?_⟩
                                refine hK.out _ _ ⟨(blk_cell BK735.out 0).trans rfl, (blk_cell BK735.out 1).trans rfl, (blk_cell BK735.out 2).trans rfl, (blk_cell BK735.out 3).trans rfl, (blk_cell BK732.out 0).trans rfl, (blk_cell BK732.out 1).trans rfl, (blk_cell BK732.out 2).trans rfl, (blk_cell BK732.out 3).trans rfl⟩ (fun hHeld => ?_)
                                clear hK K
                                refine norm_ (a' := ?_) ?_ ?_
                                rotate_left
                                · show Act.put _ (some 78) _ = _
                                  simp only [Act.put, List.setIfInBounds_toArray, List.set_cons_zero, List.set_cons_succ, i64_w, i32_w]
                                  rfl
                                refine pure_ (i := 5) (N := some 79) (v := ?_) (a' := ?_) #[true, true, true, true, true, true, false, false, false, false, false, false, false, false, false, false, false, false, false, false, false, false, false, false, false, false, false, false, false, false, false, false, false, false, false, false, false, false] rfl rfl (any_of HT_.out (by kernel_rfl)) (fun _ _ _ h => h) (Or.inl ⟨by rfl, ?_⟩) ?_ ?_
                                rotate_left
                                · intro w'
                                  go_simp
                                  with_reducible rfl
                                rotate_left
                                · simp only [Act.put, List.setIfInBounds_toArray, List.set_cons_zero, List.set_cons_succ, i64_w, i32_w]
                                  rfl
                                refine pure_ (i := 6) (N := some 80) (v := ?_) (a' := ?_) #[true, true, true, true, true, true, true, false, false, false, false, false, false, false, false, false, false, false, false, false, false, false, false, false, false, false, false, false, false, false, false, false, false, false, false, false, false, false] rfl rfl (any_of HT_.out (by kernel_rfl)) (fun _ _ _ h => h) (Or.inl ⟨by rfl, ?_⟩) ?_ ?_
                                rotate_left
                                · intro w'
                                  go_simp
                                  with_reducible rfl
                                rotate_left
                                · simp only [Act.put, List.setIfInBounds_toArray, List.set_cons_zero, List.set_cons_succ, i64_w, i32_w]
                                  rfl
                                refine pure_ (i := 7) (N := some 81) (v := ?_) (a' := ?_) #[true, true, true, true, true, true, true, true, false, false, false, false, false, false, false, false, false, false, false, false, false, false, false, false, false, false, false, false, false, false, false, false, false, false, false, false, false, false] rfl rfl (any_of HT_.out (by kernel_rfl)) (fun _ _ _ h => h) (Or.inl ⟨by rfl, ?_⟩) ?_ ?_
                                rotate_left
                                · intro w'
                                  go_simp
                                  with_reducible rfl
                                rotate_left
                                · simp only [Act.put, List.setIfInBounds_toArray, List.set_cons_zero, List.set_cons_succ, i64_w, i32_w]
                                  rfl
                                refine take_ (i := 8) (N := some 82) (v := ?_) (a' := ?_) #[true, true, true, true, true, true, true, true, true, false, false, false, false, false, false, false, false, false, false, false, false, false, false, false, false, false, false, false, false, false, false, false, false, false, false, false, false, false] rfl rfl (take_ofW HT_.out HW_.out (by kernel_rfl)) (fun _ _ _ h => h) (Or.inl ⟨by rfl, ?_⟩) hHeld ?_ ?_
                                rotate_left
                                · rintro w' ⟨s0, s1, s2, s3, s4, s5, s6, s7⟩
                                  go_simp
                                  with_reducible rfl
                                rotate_left
                                · simp only [Act.put, List.setIfInBounds_toArray, List.set_cons_zero, List.set_cons_succ, i64_w, i32_w]
                                  rfl
                                refine take_ (i := 11) (N := some 85) (v := ?_) (a' := ?_) #[true, true, true, true, true, true, true, true, true, false, false, true, false, false, false, false, false, false, false, false, false, false, false, false, false, false, false, false, false, false, false, false, false, false, false, false, false, false] rfl rfl (take_ofW HT_.out HW_.out (by kernel_rfl)) (fun _ _ _ h => h) (Or.inl ⟨by rfl, ?_⟩) hHeld ?_ ?_
                                rotate_left
                                · rintro w' ⟨s0, s1, s2, s3, s4, s5, s6, s7⟩
                                  go_simp
                                  with_reducible rfl
                                rotate_left
                                · simp only [Act.put, List.setIfInBounds_toArray, List.set_cons_zero, List.set_cons_succ, i64_w, i32_w]
                                  rfl
                                refine one_ (i := 9) (N := some 83) #[true, true, true, true, true, true, true, true, true, true, false, true, false, false, false, false, false, false, false, false, false, false, false, false, false, false, false, false, false, false, false, false, false, false, false, false, false, false] rfl rfl (one_of HT_.out (by kernel_rfl)) (by decide) (fun K hK => ?_)
                                refine goes_ Tryd.func12 (by kernel_rfl) rfl #[] (by rfl) rfl rfl (by (try simp only [List.map_toArray, List.map_cons, List.map_nil]); first | done | rfl | (simp only [List.length_drop, List.length_take]; rfl)) ?_
                                with_reducible refine (auto_Bound.calls  t749 _ A69.out).mono ?_
                                rintro e w' ⟨rfl, ⟨nd, rfl⟩⟩
                                refine ⟨_, rfl, ?_⟩
                                refine hK.out _ _ ⟨(blk_cell BK735.out 0).trans rfl, (blk_cell BK735.out 1).trans rfl, (blk_cell BK735.out 2).trans rfl, (blk_cell BK735.out 3).trans rfl, (blk_cell BK732.out 0).trans rfl, (blk_cell BK732.out 1).trans rfl, (blk_cell BK732.out 2).trans rfl, (blk_cell BK732.out 3).trans rfl⟩ (fun hHeld => ?_)
                                clear hK K
                                refine norm_ (a' := ?_) ?_ ?_
                                rotate_left
                                · show Act.put _ (some 83) _ = _
                                  simp only [Act.put, List.setIfInBounds_toArray, List.set_cons_zero, List.set_cons_succ, i64_w, i32_w]
                                  rfl
                                refine one_ (i := 10) (N := some 84) #[true, true, true, true, true, true, true, true, true, true, true, true, false, false, false, false, false, false, false, false, false, false, false, false, false, false, false, false, false, false, false, false, false, false, false, false, false, false] rfl rfl (one_of HT_.out (by kernel_rfl)) (by decide) (fun K hK => ?_)
                                refine goes_ Tryd.func18 (by kernel_rfl) rfl #[.agg #[.int .i64 a0_0, .int .i64 a0_1, .int .i64 a0_2, .int .u8 a0_3], .int .i64 t749] (by rfl) rfl rfl (by (try simp only [List.map_toArray, List.map_cons, List.map_nil]); first | done | rfl | (simp only [List.length_drop, List.length_take]; rfl)) ?_
                                with_reducible refine (auto_Quiet.calls kj49 a0_0 a0_1 a0_2 a0_3 t749 t750 t751 t752 t753 _ ?side1 A70.out).mono ?_
                                (case side1 => exact (HGL.out.below (by repeat (first | (with_reducible first | exact HB.out | apply pA | apply pN | apply pD | refine pS ?_ GE732.out | refine pS ?_ GE735.out) | exact HB.out))))
                                rintro e w82 ⟨rfl, hb⟩
                                refine ⟨_, rfl, ?_⟩
                                have n0_ := Aside0.mk (blk_below (g := gb732) (o := .cells #[.int .i64 a0_0, .int .i64 a0_1, .int .i64 a0_2, .int .u8 a0_3] 23 (0, 0)) (by (with_reducible repeat (first | refine qN ?_ _ | refine qD ?_ | refine qA ?_ _)); exact BK732.out) hb)
                                have n1_ := Aside0.mk (blk_below (g := gb735) (o := .cells #[.int .i64 x736000_2, .int .i64 x736001_2, .int .i64 x736002_2, .int .u8 x736003_2] 23 (0, 0)) (by (with_reducible repeat (first | refine qN ?_ _ | refine qD ?_ | refine qA ?_ _)); exact BK735.out) hb)
                                have n2_ := Aside0.mk (below_step (by repeat (first | (with_reducible first | exact HB.out | apply pA | apply pN | apply pD | refine pS ?_ GE732.out | refine pS ?_ GE735.out) | exact HB.out)) hb)
                                clear BK732
                                clear BK735
                                clear HB
                                have BK732 := n0_
                                have BK735 := n1_
                                have HB := n2_
                                clear n0_ n1_ n2_
                                (try clear hb)
                                (try clear hb2)
                                (try clear hk)
                                (try clear hi)
                                refine hK.out _ _ ⟨(blk_cell BK735.out 0).trans rfl, (blk_cell BK735.out 1).trans rfl, (blk_cell BK735.out 2).trans rfl, (blk_cell BK735.out 3).trans rfl, (blk_cell BK732.out 0).trans rfl, (blk_cell BK732.out 1).trans rfl, (blk_cell BK732.out 2).trans rfl, (blk_cell BK732.out 3).trans rfl⟩ (fun hHeld => ?_)
                                clear hK K
                                refine norm_ (a' := ?_) ?_ ?_
                                rotate_left
                                · show Act.put _ (some 84) _ = _
                                  simp only [Act.put, List.setIfInBounds_toArray, List.set_cons_zero, List.set_cons_succ, i64_w, i32_w]
                                  rfl
                                refine pure_ (i := 12) (N := some 86) (v := ?_) (a' := ?_) #[true, true, true, true, true, true, true, true, true, true, true, true, true, false, false, false, false, false, false, false, false, false, false, false, false, false, false, false, false, false, false, false, false, false, false, false, false, false] rfl rfl (any_of HT_.out (by kernel_rfl)) (fun _ _ _ h => h) (Or.inl ⟨by rfl, ?_⟩) ?_ ?_
                                rotate_left
                                · intro w'
                                  go_simp
                                  with_reducible rfl
                                rotate_left
                                · simp only [Act.put, List.setIfInBounds_toArray, List.set_cons_zero, List.set_cons_succ, i64_w, i32_w]
                                  rfl
                                refine pure_ (i := 13) (N := some 87) (v := ?_) (a' := ?_) #[true, true, true, true, true, true, true, true, true, true, true, true, true, true, false, false, false, false, false, false, false, false, false, false, false, false, false, false, false, false, false, false, false, false, false, false, false, false] rfl rfl (any_of HT_.out (by kernel_rfl)) (fun _ _ _ h => h) (Or.inl ⟨by rfl, ?_⟩) ?_ ?_
                                rotate_left
                                · intro w'
                                  go_simp
                                  with_reducible rfl
                                rotate_left
                                · simp only [Act.put, List.setIfInBounds_toArray, List.set_cons_zero, List.set_cons_succ, i64_w, i32_w]
                                  rfl
                                refine pure_ (i := 14) (N := some 88) (v := ?_) (a' := ?_) #[true, true, true, true, true, true, true, true, true, true, true, true, true, true, true, false, false, false, false, false, false, false, false, false, false, false, false, false, false, false, false, false, false, false, false, false, false, false] rfl rfl (any_of HT_.out (by kernel_rfl)) (fun _ _ _ h => h) (Or.inl ⟨by rfl, ?_⟩) ?_ ?_
                                rotate_left
                                · intro w'
                                  go_simp
                                  with_reducible rfl
                                rotate_left
                                · simp only [Act.put, List.setIfInBounds_toArray, List.set_cons_zero, List.set_cons_succ, i64_w, i32_w]
                                  rfl
                                refine pure_ (i := 17) (N := some 91) (v := ?_) (a' := ?_) #[true, true, true, true, true, true, true, true, true, true, true, true, true, true, true, false, false, true, false, false, false, false, false, false, false, false, false, false, false, false, false, false, false, false, false, false, false, false] rfl rfl (any_of HT_.out (by kernel_rfl)) (fun _ _ _ h => h) (Or.inl ⟨by rfl, ?_⟩) ?_ ?_
                                rotate_left
                                · intro w'
                                  go_simp
                                  with_reducible rfl
                                rotate_left
                                · simp only [Act.put, List.setIfInBounds_toArray, List.set_cons_zero, List.set_cons_succ, i64_w, i32_w]
                                  rfl
                                refine take_ (i := 15) (N := some 89) (v := ?_) (a' := ?_) #[true, true, true, true, true, true, true, true, true, true, true, true, true, true, true, true, false, true, false, false, false, false, false, false, false, false, false, false, false, false, false, false, false, false, false, false, false, false] rfl rfl (take_ofW HT_.out HW_.out (by kernel_rfl)) (fun _ _ _ h => h) (Or.inl ⟨by rfl, ?_⟩) hHeld ?_ ?_
                                rotate_left
                                · rintro w' ⟨s0, s1, s2, s3, s4, s5, s6, s7⟩
                                  go_simp
                                  with_reducible rfl
                                rotate_left
                                · simp only [Act.put, List.setIfInBounds_toArray, List.set_cons_zero, List.set_cons_succ, i64_w, i32_w]
                                  rfl
                                refine take_ (i := 20) (N := some 94) (v := ?_) (a' := ?_) #[true, true, true, true, true, true, true, true, true, true, true, true, true, true, true, true, false, true, false, false, true, false, false, false, false, false, false, false, false, false, false, false, false, false, false, false, false, false] rfl rfl (take_ofW HT_.out HW_.out (by kernel_rfl)) (fun _ _ _ h => h) (Or.inl ⟨by rfl, ?_⟩) hHeld ?_ ?_
                                rotate_left
                                · rintro w' ⟨s0, s1, s2, s3, s4, s5, s6, s7⟩
                                  go_simp
                                  with_reducible rfl
                                rotate_left
                                · simp only [Act.put, List.setIfInBounds_toArray, List.set_cons_zero, List.set_cons_succ, i64_w, i32_w]
                                  rfl
                                refine one_ (i := 16) (N := some 90) #[true, true, true, true, true, true, true, true, true, true, true, true, true, true, true, true, true, true, false, false, true, false, false, false, false, false, false, false, false, false, false, false, false, false, false, false, false, false] rfl rfl (one_of HT_.out (by kernel_rfl)) (by decide) (fun K hK => ?_)
                                refine goes_ Tryd.func12 (by kernel_rfl) rfl #[] (by rfl) rfl rfl (by (try simp only [List.map_toArray, List.map_cons, List.map_nil]); first | done | rfl | (simp only [List.length_drop, List.length_take]; rfl)) ?_
                                with_reducible refine (auto_Bound.calls  t754 _ A72.out).mono ?_
                                rintro e w' ⟨rfl, ⟨nd, rfl⟩⟩
                                refine ⟨_, rfl, ?_⟩
                                refine hK.out _ _ ⟨(blk_cell BK735.out 0).trans rfl, (blk_cell BK735.out 1).trans rfl, (blk_cell BK735.out 2).trans rfl, (blk_cell BK735.out 3).trans rfl, (blk_cell BK732.out 0).trans rfl, (blk_cell BK732.out 1).trans rfl, (blk_cell BK732.out 2).trans rfl, (blk_cell BK732.out 3).trans rfl⟩ (fun hHeld => ?_)
                                clear hK K
                                refine norm_ (a' := ?_) ?_ ?_
                                rotate_left
                                · show Act.put _ (some 90) _ = _
                                  simp only [Act.put, List.setIfInBounds_toArray, List.set_cons_zero, List.set_cons_succ, i64_w, i32_w]
                                  rfl
                                refine pure_ (i := 18) (N := some 92) (v := ?_) (a' := ?_) #[true, true, true, true, true, true, true, true, true, true, true, true, true, true, true, true, true, true, true, false, true, false, false, false, false, false, false, false, false, false, false, false, false, false, false, false, false, false] rfl rfl (any_of HT_.out (by kernel_rfl)) (fun _ _ _ h => h) (Or.inl ⟨by rfl, ?_⟩) ?_ ?_
                                rotate_left
                                · intro w'
                                  go_simp
                                  with_reducible rfl
                                rotate_left
                                · simp only [Act.put, List.setIfInBounds_toArray, List.set_cons_zero, List.set_cons_succ, i64_w, i32_w]
                                  rfl
                                refine one_ (i := 19) (N := some 93) #[true, true, true, true, true, true, true, true, true, true, true, true, true, true, true, true, true, true, true, true, true, false, false, false, false, false, false, false, false, false, false, false, false, false, false, false, false, false] rfl rfl (one_of HT_.out (by kernel_rfl)) (by decide) (fun K hK => ?_)
                                refine goes_ Tryd.func18 (by kernel_rfl) rfl #[.agg #[.int .i64 a0_0, .int .i64 a0_1, .int .i64 a0_2, .int .u8 a0_3], .int .i64 (wrap64 (t754 + a1))] (by rfl) rfl rfl (by (try simp only [List.map_toArray, List.map_cons, List.map_nil]); first | done | rfl | (simp only [List.length_drop, List.length_take]; rfl)) ?_
                                with_reducible refine (auto_Quiet.calls kj49 a0_0 a0_1 a0_2 a0_3 (wrap64 (t754 + a1)) t755 t756 t757 t758 _ ?side1 A73.out).mono ?_
                                (case side1 => exact (HGL.out.below (by repeat (first | (with_reducible first | exact HB.out | apply pA | apply pN | apply pD | refine pS ?_ GE732.out | refine pS ?_ GE735.out) | exact HB.out))))
                                rintro e w83 ⟨rfl, hb⟩
                                refine ⟨_, rfl, ?_⟩
                                have n0_ := Aside0.mk (blk_below (g := gb732) (o := .cells #[.int .i64 a0_0, .int .i64 a0_1, .int .i64 a0_2, .int .u8 a0_3] 23 (0, 0)) (by (with_reducible repeat (first | refine qN ?_ _ | refine qD ?_ | refine qA ?_ _)); exact BK732.out) hb)
                                have n1_ := Aside0.mk (blk_below (g := gb735) (o := .cells #[.int .i64 x736000_2, .int .i64 x736001_2, .int .i64 x736002_2, .int .u8 x736003_2] 23 (0, 0)) (by (with_reducible repeat (first | refine qN ?_ _ | refine qD ?_ | refine qA ?_ _)); exact BK735.out) hb)
                                have n2_ := Aside0.mk (below_step (by repeat (first | (with_reducible first | exact HB.out | apply pA | apply pN | apply pD | refine pS ?_ GE732.out | refine pS ?_ GE735.out) | exact HB.out)) hb)
                                clear BK732
                                clear BK735
                                clear HB
                                have BK732 := n0_
                                have BK735 := n1_
                                have HB := n2_
                                clear n0_ n1_ n2_
                                (try clear hb)
                                (try clear hb2)
                                (try clear hk)
                                (try clear hi)
                                refine hK.out _ _ ⟨(blk_cell BK735.out 0).trans rfl, (blk_cell BK735.out 1).trans rfl, (blk_cell BK735.out 2).trans rfl, (blk_cell BK735.out 3).trans rfl, (blk_cell BK732.out 0).trans rfl, (blk_cell BK732.out 1).trans rfl, (blk_cell BK732.out 2).trans rfl, (blk_cell BK732.out 3).trans rfl⟩ (fun hHeld => ?_)
                                clear hK K
                                refine norm_ (a' := ?_) ?_ ?_
                                rotate_left
                                · show Act.put _ (some 93) _ = _
                                  simp only [Act.put, List.setIfInBounds_toArray, List.set_cons_zero, List.set_cons_succ, i64_w, i32_w]
                                  rfl
                                refine pure_ (i := 21) (N := some 95) (v := ?_) (a' := ?_) #[true, true, true, true, true, true, true, true, true, true, true, true, true, true, true, true, true, true, true, true, true, true, false, false, false, false, false, false, false, false, false, false, false, false, false, false, false, false] rfl rfl (any_of HT_.out (by kernel_rfl)) (fun _ _ _ h => h) (Or.inl ⟨by rfl, ?_⟩) ?_ ?_
                                rotate_left
                                · intro w'
                                  go_simp
                                  with_reducible rfl
                                rotate_left
                                · simp only [Act.put, List.setIfInBounds_toArray, List.set_cons_zero, List.set_cons_succ, i64_w, i32_w]
                                  rfl
                                refine pure_ (i := 22) (N := some 96) (v := ?_) (a' := ?_) #[true, true, true, true, true, true, true, true, true, true, true, true, true, true, true, true, true, true, true, true, true, true, true, false, false, false, false, false, false, false, false, false, false, false, false, false, false, false] rfl rfl (any_of HT_.out (by kernel_rfl)) (fun _ _ _ h => h) (Or.inl ⟨by rfl, ?_⟩) ?_ ?_
                                rotate_left
                                · intro w'
                                  go_simp
                                  with_reducible rfl
                                rotate_left
                                · simp only [Act.put, List.setIfInBounds_toArray, List.set_cons_zero, List.set_cons_succ, i64_w, i32_w]
                                  rfl
                                refine pure_ (i := 23) (N := some 97) (v := ?_) (a' := ?_) #[true, true, true, true, true, true, true, true, true, true, true, true, true, true, true, true, true, true, true, true, true, true, true, true, false, false, false, false, false, false, false, false, false, false, false, false, false, false] rfl rfl (any_of HT_.out (by kernel_rfl)) (fun _ _ _ h => h) (Or.inl ⟨by rfl, ?_⟩) ?_ ?_
                                rotate_left
                                · intro w'
                                  go_simp
                                  with_reducible rfl
                                rotate_left
                                · simp only [Act.put, List.setIfInBounds_toArray, List.set_cons_zero, List.set_cons_succ, i64_w, i32_w]
                                  rfl
                                refine pure_ (i := 24) (N := some 98) (v := ?_) (a' := ?_) #[true, true, true, true, true, true, true, true, true, true, true, true, true, true, true, true, true, true, true, true, true, true, true, true, true, false, false, false, false, false, false, false, false, false, false, false, false, false] rfl rfl (any_of HT_.out (by kernel_rfl)) (fun _ _ _ h => h) (Or.inl ⟨by rfl, ?_⟩) ?_ ?_
                                rotate_left
                                · intro w'
                                  go_simp
                                  with_reducible rfl
                                rotate_left
                                · simp only [Act.put, List.setIfInBounds_toArray, List.set_cons_zero, List.set_cons_succ, i64_w, i32_w]
                                  rfl
                                refine take_ (i := 25) (N := some 99) (v := ?_) (a' := ?_) #[true, true, true, true, true, true, true, true, true, true, true, true, true, true, true, true, true, true, true, true, true, true, true, true, true, true, false, false, false, false, false, false, false, false, false, false, false, false] rfl rfl (take_ofW HT_.out HW_.out (by kernel_rfl)) (fun _ _ _ h => h) (Or.inl ⟨by rfl, ?_⟩) hHeld ?_ ?_
                                rotate_left
                                · rintro w' ⟨s0, s1, s2, s3, s4, s5, s6, s7⟩
                                  go_simp
                                  with_reducible rfl
                                rotate_left
                                · simp only [Act.put, List.setIfInBounds_toArray, List.set_cons_zero, List.set_cons_succ, i64_w, i32_w]
                                  rfl
                                refine one_ (i := 26) (N := some 100) #[true, true, true, true, true, true, true, true, true, true, true, true, true, true, true, true, true, true, true, true, true, true, true, true, true, true, true, false, false, false, false, false, false, false, false, false, false, false] rfl rfl (one_of HT_.out (by kernel_rfl)) (by decide) (fun K hK => ?_)
                                refine goes_ Tryd.func21 (by kernel_rfl) rfl #[.int .i64 a0_0] (by rfl) rfl rfl (by (try simp only [List.map_toArray, List.map_cons, List.map_nil]); first | done | rfl | (simp only [List.length_drop, List.length_take]; rfl)) ?_
                                with_reducible refine (portreeveref11_Timed.calls a0_0 false _ A75.out).mono ?_
                                rintro e w' ⟨rfl, ⟨nd, rfl⟩⟩
                                refine ⟨_, rfl, ?_⟩
                                refine hK.out _ _ ⟨(blk_cell BK735.out 0).trans rfl, (blk_cell BK735.out 1).trans rfl, (blk_cell BK735.out 2).trans rfl, (blk_cell BK735.out 3).trans rfl, (blk_cell BK732.out 0).trans rfl, (blk_cell BK732.out 1).trans rfl, (blk_cell BK732.out 2).trans rfl, (blk_cell BK732.out 3).trans rfl⟩ (fun hHeld => ?_)
                                clear hK K
                                refine norm_ (a' := ?_) ?_ ?_
                                rotate_left
                                · show Act.put _ (some 100) _ = _
                                  simp only [Act.put, List.setIfInBounds_toArray, List.set_cons_zero, List.set_cons_succ, i64_w, i32_w]
                                  rfl
                                refine pure_ (i := 27) (N := some 101) (v := ?_) (a' := ?_) #[true, true, true, true, true, true, true, true, true, true, true, true, true, true, true, true, true, true, true, true, true, true, true, true, true, true, true, true, false, false, false, false, false, false, false, false, false, false] rfl rfl (any_of HT_.out (by kernel_rfl)) (fun _ _ _ h => h) (Or.inl ⟨by rfl, ?_⟩) ?_ ?_
                                rotate_left
                                · intro w'
                                  go_simp
                                  with_reducible rfl
                                rotate_left
                                · simp only [Act.put, List.setIfInBounds_toArray, List.set_cons_zero, List.set_cons_succ, i64_w, i32_w]
                                  rfl
                                refine take_ (i := 28) (N := some 102) (v := ?_) (a' := ?_) #[true, true, true, true, true, true, true, true, true, true, true, true, true, true, true, true, true, true, true, true, true, true, true, true, true, true, true, true, true, false, false, false, false, false, false, false, false, false] rfl rfl (take_ofW HT_.out HW_.out (by kernel_rfl)) (fun _ _ _ h => h) (Or.inl ⟨by rfl, ?_⟩) hHeld ?_ ?_
                                rotate_left
                                · rintro w' ⟨s0, s1, s2, s3, s4, s5, s6, s7⟩
                                  go_simp
                                  with_reducible rfl
                                rotate_left
                                · simp only [Act.put, List.setIfInBounds_toArray, List.set_cons_zero, List.set_cons_succ, i64_w, i32_w]
                                  rfl
                                refine take_ (i := 29) (N := some 103) (v := ?_) (a' := ?_) #[true, true, true, true, true, true, true, true, true, true, true, true, true, true, true, true, true, true, true, true, true, true, true, true, true, true, true, true, true, true, false, false, false, false, false, false, false, false] rfl rfl (take_ofW HT_.out HW_.out (by kernel_rfl)) (fun _ _ _ h => h) (Or.inl ⟨by rfl, ?_⟩) hHeld ?_ ?_
                                rotate_left
                                · rintro w' ⟨s0, s1, s2, s3, s4, s5, s6, s7⟩
                                  go_simp
                                  with_reducible rfl
                                rotate_left
                                · simp only [Act.put, List.setIfInBounds_toArray, List.set_cons_zero, List.set_cons_succ, i64_w, i32_w]
                                  rfl
                                refine pure_ (i := 30) (N := some 104) (v := ?_) (a' := ?_) #[true, true, true, true, true, true, true, true, true, true, true, true, true, true, true, true, true, true, true, true, true, true, true, true, true, true, true, true, true, true, true, false, false, false, false, false, false, false] rfl rfl (any_of HT_.out (by kernel_rfl)) (fun _ _ _ h => h) (Or.inl ⟨by rfl, ?_⟩) ?_ ?_
                                rotate_left
                                · intro w'
                                  go_simp
                                  with_reducible rfl
                                rotate_left
                                · simp only [Act.put, List.setIfInBounds_toArray, List.set_cons_zero, List.set_cons_succ, i64_w, i32_w]
                                  rfl
                                refine pure_ (i := 31) (N := some 105) (v := ?_) (a' := ?_) #[true, true, true, true, true, true, true, true, true, true, true, true, true, true, true, true, true, true, true, true, true, true, true, true, true, true, true, true, true, true, true, true, false, false, false, false, false, false] rfl rfl (any_of HT_.out (by kernel_rfl)) (fun _ _ _ h => h) (Or.inl ⟨by rfl, ?_⟩) ?_ ?_
                                rotate_left
                                · intro w'
                                  go_simp
                                  with_reducible rfl
                                rotate_left
                                · simp only [Act.put, List.setIfInBounds_toArray, List.set_cons_zero, List.set_cons_succ, i64_w, i32_w]
                                  rfl
                                refine pure_ (i := 32) (N := some 106) (v := ?_) (a' := ?_) #[true, true, true, true, true, true, true, true, true, true, true, true, true, true, true, true, true, true, true, true, true, true, true, true, true, true, true, true, true, true, true, true, true, false, false, false, false, false] rfl rfl (any_of HT_.out (by kernel_rfl)) (fun _ _ _ h => h) (Or.inl ⟨by rfl, ?_⟩) ?_ ?_
                                rotate_left
                                · intro w'
                                  go_simp
                                  with_reducible rfl
                                rotate_left
                                · simp only [Act.put, List.setIfInBounds_toArray, List.set_cons_zero, List.set_cons_succ, i64_w, i32_w]
                                  rfl
                                refine pure_ (i := 33) (N := some 107) (v := ?_) (a' := ?_) #[true, true, true, true, true, true, true, true, true, true, true, true, true, true, true, true, true, true, true, true, true, true, true, true, true, true, true, true, true, true, true, true, true, true, false, false, false, false] rfl rfl (any_of HT_.out (by kernel_rfl)) (fun _ _ _ h => h) (Or.inl ⟨by rfl, ?_⟩) ?_ ?_
                                rotate_left
                                · intro w'
                                  go_simp
                                  with_reducible rfl
                                rotate_left
                                · simp only [Act.put, List.setIfInBounds_toArray, List.set_cons_zero, List.set_cons_succ, i64_w, i32_w]
                                  rfl
                                refine pure_ (i := 34) (N := some 108) (v := ?_) (a' := ?_) #[true, true, true, true, true, true, true, true, true, true, true, true, true, true, true, true, true, true, true, true, true, true, true, true, true, true, true, true, true, true, true, true, true, true, true, false, false, false] rfl rfl (any_of HT_.out (by kernel_rfl)) (fun _ _ _ h => h) (Or.inl ⟨by rfl, ?_⟩) ?_ ?_
                                rotate_left
                                · intro w'
                                  go_simp
                                  with_reducible rfl
                                rotate_left
                                · simp only [Act.put, List.setIfInBounds_toArray, List.set_cons_zero, List.set_cons_succ, i64_w, i32_w]
                                  rfl
                                refine pure_ (i := 35) (N := some 109) (v := ?_) (a' := ?_) #[true, true, true, true, true, true, true, true, true, true, true, true, true, true, true, true, true, true, true, true, true, true, true, true, true, true, true, true, true, true, true, true, true, true, true, true, false, false] rfl rfl (any_of HT_.out (by kernel_rfl)) (fun _ _ _ h => h) (Or.inl ⟨by rfl, ?_⟩) ?_ ?_
                                rotate_left
                                · intro w'
                                  go_simp
                                  with_reducible rfl
                                rotate_left
                                · simp only [Act.put, List.setIfInBounds_toArray, List.set_cons_zero, List.set_cons_succ, i64_w, i32_w]
                                  rfl
                                refine pure_ (i := 36) (N := some 110) (v := ?_) (a' := ?_) #[true, true, true, true, true, true, true, true, true, true, true, true, true, true, true, true, true, true, true, true, true, true, true, true, true, true, true, true, true, true, true, true, true, true, true, true, true, false] rfl rfl (any_of HT_.out (by kernel_rfl)) (fun _ _ _ h => h) (Or.inl ⟨by rfl, ?_⟩) ?_ ?_
                                rotate_left
                                · intro w'
                                  go_simp
                                  with_reducible rfl
                                rotate_left
                                · simp only [Act.put, List.setIfInBounds_toArray, List.set_cons_zero, List.set_cons_succ, i64_w, i32_w]
                                  rfl
                                refine pure_ (i := 37) (N := some 4) (v := ?_) (a' := ?_) #[true, true, true, true, true, true, true, true, true, true, true, true, true, true, true, true, true, true, true, true, true, true, true, true, true, true, true, true, true, true, true, true, true, true, true, true, true, true] rfl rfl (any_of HT_.out (by kernel_rfl)) (fun _ _ _ h => h) (Or.inl ⟨by rfl, ?_⟩) ?_ ?_
                                rotate_left
                                · intro w'
                                  go_simp
                                  with_reducible rfl
                                rotate_left
                                · simp only [Act.put, List.setIfInBounds_toArray, List.set_cons_zero, List.set_cons_succ, i64_w, i32_w]
                                  rfl
                                refine done_ (done_of HT_.out (by kernel_rfl)) ?_
                                try go_wp2
                                go_ret
                                exact ⟨by first | rfl | (simp [errW_none, errW_some] <;> rfl) | (simp [*, errW_none, errW_some] <;> rfl), by repeat (first | (with_reducible first | exact HB.out | apply pA | apply pN | apply pD | refine pS ?_ GE732.out | refine pS ?_ GE735.out) | exact HB.out)⟩
                              · rw [if_neg c80] at H
                                have c80b0 : (x736000_2 == a0_0 && (x736001_2 == a0_1 && (x736002_2 == a0_2 && (x736003_2 == a0_3)))) = false := by simpa using c80
                                (try (have c80b1 : decide (x736000_2 = a0_0 && (x736001_2 == a0_1 && (x736002_2 == a0_2 && (x736003_2 == a0_3)))) = false := by simpa using c80))
                                (try (have c80b2 : (x736000_2 == a0_0 && (x736001_2 == a0_1 && (x736002_2 == a0_2 && (x736003_2 == a0_3)))) = false := by simpa using c80))
                                (try (have c80b3 : ¬ (x736000_2 = a0_0 && (x736001_2 == a0_1 && (x736002_2 == a0_2 && (x736003_2 == a0_3)))) := by simpa using c80))
                                clear c80
                                exact absurd ((Option.some.inj H).trans hlaw_.out) (by decide)
                          · rw [if_neg c74] at H
                            have c74b0 : (t755 == x736000_2 && (t756 == x736001_2 && (t757 == x736002_2 && (t758 == x736003_2)))) = false := by simpa using c74
                            (try (have c74b1 : decide (t755 = x736000_2 && (t756 == x736001_2 && (t757 == x736002_2 && (t758 == x736003_2)))) = false := by simpa using c74))
                            (try (have c74b2 : (t755 == x736000_2 && (t756 == x736001_2 && (t757 == x736002_2 && (t758 == x736003_2)))) = false := by simpa using c74))
                            (try (have c74b3 : ¬ (t755 = x736000_2 && (t756 == x736001_2 && (t757 == x736002_2 && (t758 == x736003_2)))) := by simpa using c74))
                            clear c74
                            exact absurd ((Option.some.inj H).trans hlaw_.out) (by decide)
                        · rw [if_neg c71] at H
                          have c71b0 : (t750 == x736000_2 && (t751 == x736001_2 && (t752 == x736002_2 && (t753 == x736003_2)))) = false := by simpa using c71
                          (try (have c71b1 : decide (t750 = x736000_2 && (t751 == x736001_2 && (t752 == x736002_2 && (t753 == x736003_2)))) = false := by simpa using c71))
                          (try (have c71b2 : (t750 == x736000_2 && (t751 == x736001_2 && (t752 == x736002_2 && (t753 == x736003_2)))) = false := by simpa using c71))
                          (try (have c71b3 : ¬ (t750 = x736000_2 && (t751 == x736001_2 && (t752 == x736002_2 && (t753 == x736003_2)))) := by simpa using c71))
                          clear c71
                          exact absurd ((Option.some.inj H).trans hlaw_.out) (by decide)
                    · replace c66 := Bool.eq_false_iff.mpr c66
                      subst c66
                      have H1 : (some false) = some r := by rw [if_neg (show ¬ (false = true) by decide)] at H; exact H
                      clear H
                      have H := H1
                      clear H1
                      exact absurd ((Option.some.inj H).trans hlaw_.out) (by decide)

end Go.Proofs.YtoenogjedmnnlaaDoor.Q

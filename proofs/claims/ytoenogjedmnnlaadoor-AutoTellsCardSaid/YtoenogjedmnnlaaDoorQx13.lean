-- written by this session's own program (wip/tools/myprint.py), over the kit's print
import Derived.Test.YtoenogjedmnnlaaDoorQx0
import Derived.Test.YtoenogjedmnnlaaDoorQx1
import Derived.Test.YtoenogjedmnnlaaDoorQx2
import Derived.Test.YtoenogjedmnnlaaDoorQx4
import Derived.Test.YtoenogjedmnnlaaDoorQx5
import Derived.Test.YtoenogjedmnnlaaDoorQx6
import Derived.Test.YtoenogjedmnnlaaDoorQx11
import Derived.Test.YtoenogjedmnnlaaDoorQx12
namespace Go.Proofs.YtoenogjedmnnlaaDoor.Q
open Go.RowKit Go.Proofs.YtoenogjedmnnlaaDoorW.PrintWords Go.Proofs.YtoenogjedmnnlaaDoorW.PrintLast Go.Proofs.YtoenogjedmnnlaaDoorW.PrintMore
open Go.Proofs.YtoenogjedmnnlaaDoorV Go.Proofs.YtoenogjedmnnlaaDoorG
attribute [local go_sem] max2_int min2_int max_two min_two max_three min_three max_four min_four   -- for this text's walks alone
set_option linter.unusedVariables false
set_option linter.unusedSimpArgs false

attribute [local go_sem high] eqA23
/-! ### portreevelaw12_AutoTells: function 3 -/
mutual
def portreevelaw12_AutoTells.j0 : Nat → Int → Int → Bool → Bool → Int → Int → Int → Int → Option (Bool)
  | 0, _, _, _, _, _, _, _, _ => none
  | k + 1, x1, x2, x7, x25, x661000, x661001, x661002, x661003 => if x25 = true then (some x7) else ((portreeveref12_Right.f k x661000 x661001 x661002 x661003).bind fun t662 => ((auto_Right.f k x661000 x661001 x661002 x661003).bind fun t663 => (if (t663 != t662) = true then (portreevelaw12_AutoTells.j1 k x1 x2 x7 t662 true x661000 x661001 x661002 x661003) else ((auto_Bound.f).bind fun t664 => (portreevelaw12_AutoTells.j1 k x1 x2 x7 t662 (t664 != 18) x661000 x661001 x661002 x661003)))))
def portreevelaw12_AutoTells.j1 : Nat → Int → Int → Bool → Bool → Bool → Int → Int → Int → Int → Option (Bool)
  | 0, _, _, _, _, _, _, _, _, _ => none
  | k + 1, x1, x2, x7, x8, x36, x661000, x661001, x661002, x661003 => if x36 = true then (some false) else (if x8 = true then ((auto_Do.f x661000 x661001 x661002 x661003 x1).bind fun bt665 => ((portreeveref12_Do.f k x661000 x661001 x661002 x661003 x1).bind fun bt674 => ((auto_Tick.f x661000 x661001 x661002 x661003).bind fun bt683 => ((portreeveref12_Tick.f k x661000 x661001 x661002 x661003).bind fun bt691 => (if x7 = true then (if (bt665.1 == bt674.1 && (bt665.2.1 == bt674.2.1 && (bt665.2.2.1 == bt674.2.2.1 && (bt665.2.2.2.1 == bt674.2.2.2.1)))) = true then ((portreeveref11_Ints.f k bt665.2.2.2.2.1 bt674.2.2.2.2.1).bind fun t699 => (if t699 = true then (if bt665.2.2.2.2.2 = bt674.2.2.2.2.2 then (if (bt683.1 == bt691.1 && (bt683.2.1 == bt691.2.1 && (bt683.2.2.1 == bt691.2.2.1 && (bt683.2.2.2.1 == bt691.2.2.2.1)))) = true then ((portreeveref11_Ints.f k bt683.2.2.2.2 bt691.2.2.2.2).bind fun t700 => (if t700 = true then ((auto_Quiet.f k x661000 x661001 x661002 x661003 x2).bind fun bt701 => ((portreeveref12_Quiet.f k x661000 x661001 x661002 x661003 x2).bind fun bt705 => (some (bt701.1 == bt705.1 && (bt701.2.1 == bt705.2.1 && (bt701.2.2.1 == bt705.2.2.1 && (bt701.2.2.2 == bt705.2.2.2))))))) else (some false))) else (some false)) else (some false)) else (some false))) else (some false)) else (some false)))))) else (some x7))
end
def portreevelaw12_AutoTells.f (k : Nat) (a0_0 : Int) (a0_1 : Int) (a0_2 : Int) (a0_3 : Int) (a1 : Int) (a2 : Int) : Option (Bool) := (portreevelaw12_shown.f k).bind fun t661 => (if a2 < 0 then (portreevelaw12_AutoTells.j0 k a1 a2 t661 true a0_0 a0_1 a0_2 a0_3) else (portreevelaw12_AutoTells.j0 k a1 a2 t661 (decide (a2 > 1000)) a0_0 a0_1 a0_2 a0_3))
theorem portreevelaw12_AutoTells.mono_l : ∀ k, (∀ y0 y1 y2 y3 y4 y5 y6 y7, LeO (portreevelaw12_AutoTells.j0 k y0 y1 y2 y3 y4 y5 y6 y7) (portreevelaw12_AutoTells.j0 (k + 1) y0 y1 y2 y3 y4 y5 y6 y7)) ∧ (∀ y0 y1 y2 y3 y4 y5 y6 y7 y8, LeO (portreevelaw12_AutoTells.j1 k y0 y1 y2 y3 y4 y5 y6 y7 y8) (portreevelaw12_AutoTells.j1 (k + 1) y0 y1 y2 y3 y4 y5 y6 y7 y8))
  | 0 => ⟨fun _ _ _ _ _ _ _ _ r h => by simp [portreevelaw12_AutoTells.j0] at h, fun _ _ _ _ _ _ _ _ _ r h => by simp [portreevelaw12_AutoTells.j1] at h⟩
  | k + 1 => by
    obtain ⟨ih0, ih1⟩ := portreevelaw12_AutoTells.mono_l k
    refine ⟨?_, ?_⟩
    · intro y0 y1 y2 y3 y4 y5 y6 y7
      unfold portreevelaw12_AutoTells.j0
      repeat' first
      | (with_reducible exact ih0 _ _ _ _ _ _ _ _)
      | (with_reducible exact ih1 _ _ _ _ _ _ _ _ _)
      | (with_reducible exact auto_Quiet.mono _ _ _ _ _ _)
      | (with_reducible exact auto_Right.mono _ _ _ _ _)
      | (with_reducible exact portreevelaw12_shown.mono _)
      | (with_reducible exact portreeveref11_Ints.mono _ _ _)
      | (with_reducible exact portreeveref12_Do.mono _ _ _ _ _ _)
      | (with_reducible exact portreeveref12_Quiet.mono _ _ _ _ _ _)
      | (with_reducible exact portreeveref12_Right.mono _ _ _ _ _)
      | (with_reducible exact portreeveref12_Tick.mono _ _ _ _ _)
      | (with_reducible exact LeO.refl _)
      | (with_reducible exact LeO.none _)
      | (with_reducible refine LeO.ite ?_ ?_)
      | (with_reducible refine LeO.bind ?_ (fun _ => ?_))
      | exact ih0 _ _ _ _ _ _ _ _
      | exact ih1 _ _ _ _ _ _ _ _ _
      | exact auto_Quiet.mono _ _ _ _ _ _
      | exact auto_Right.mono _ _ _ _ _
      | exact portreevelaw12_shown.mono _
      | exact portreeveref11_Ints.mono _ _ _
      | exact portreeveref12_Do.mono _ _ _ _ _ _
      | exact portreeveref12_Quiet.mono _ _ _ _ _ _
      | exact portreeveref12_Right.mono _ _ _ _ _
      | exact portreeveref12_Tick.mono _ _ _ _ _
      | exact LeO.none _
      | refine LeO.ite ?_ ?_
      | refine LeO.bind ?_ (fun _ => ?_)
    · intro y0 y1 y2 y3 y4 y5 y6 y7 y8
      unfold portreevelaw12_AutoTells.j1
      repeat' first
      | (with_reducible exact ih0 _ _ _ _ _ _ _ _)
      | (with_reducible exact ih1 _ _ _ _ _ _ _ _ _)
      | (with_reducible exact auto_Quiet.mono _ _ _ _ _ _)
      | (with_reducible exact auto_Right.mono _ _ _ _ _)
      | (with_reducible exact portreevelaw12_shown.mono _)
      | (with_reducible exact portreeveref11_Ints.mono _ _ _)
      | (with_reducible exact portreeveref12_Do.mono _ _ _ _ _ _)
      | (with_reducible exact portreeveref12_Quiet.mono _ _ _ _ _ _)
      | (with_reducible exact portreeveref12_Right.mono _ _ _ _ _)
      | (with_reducible exact portreeveref12_Tick.mono _ _ _ _ _)
      | (with_reducible exact LeO.refl _)
      | (with_reducible exact LeO.none _)
      | (with_reducible refine LeO.ite ?_ ?_)
      | (with_reducible refine LeO.bind ?_ (fun _ => ?_))
      | exact ih0 _ _ _ _ _ _ _ _
      | exact ih1 _ _ _ _ _ _ _ _ _
      | exact auto_Quiet.mono _ _ _ _ _ _
      | exact auto_Right.mono _ _ _ _ _
      | exact portreevelaw12_shown.mono _
      | exact portreeveref11_Ints.mono _ _ _
      | exact portreeveref12_Do.mono _ _ _ _ _ _
      | exact portreeveref12_Quiet.mono _ _ _ _ _ _
      | exact portreeveref12_Right.mono _ _ _ _ _
      | exact portreeveref12_Tick.mono _ _ _ _ _
      | exact LeO.none _
      | refine LeO.ite ?_ ?_
      | refine LeO.bind ?_ (fun _ => ?_)
theorem portreevelaw12_AutoTells.mono : ∀ a0 a1 a2 a3 a4 a5 k, LeO (portreevelaw12_AutoTells.f k a0 a1 a2 a3 a4 a5) (portreevelaw12_AutoTells.f (k + 1) a0 a1 a2 a3 a4 a5) := by
  intro a0 a1 a2 a3 a4 a5 k
  obtain ⟨ih0, ih1⟩ := portreevelaw12_AutoTells.mono_l k
  unfold portreevelaw12_AutoTells.f
  repeat' first
      | (with_reducible exact ih0 _ _ _ _ _ _ _ _)
      | (with_reducible exact ih1 _ _ _ _ _ _ _ _ _)
      | (with_reducible exact auto_Quiet.mono _ _ _ _ _ _)
      | (with_reducible exact auto_Right.mono _ _ _ _ _)
      | (with_reducible exact portreevelaw12_shown.mono _)
      | (with_reducible exact portreeveref11_Ints.mono _ _ _)
      | (with_reducible exact portreeveref12_Do.mono _ _ _ _ _ _)
      | (with_reducible exact portreeveref12_Quiet.mono _ _ _ _ _ _)
      | (with_reducible exact portreeveref12_Right.mono _ _ _ _ _)
      | (with_reducible exact portreeveref12_Tick.mono _ _ _ _ _)
      | (with_reducible exact LeO.refl _)
      | (with_reducible exact LeO.none _)
      | (with_reducible refine LeO.ite ?_ ?_)
      | (with_reducible refine LeO.bind ?_ (fun _ => ?_))
      | exact ih0 _ _ _ _ _ _ _ _
      | exact ih1 _ _ _ _ _ _ _ _ _
      | exact auto_Quiet.mono _ _ _ _ _ _
      | exact auto_Right.mono _ _ _ _ _
      | exact portreevelaw12_shown.mono _
      | exact portreeveref11_Ints.mono _ _ _
      | exact portreeveref12_Do.mono _ _ _ _ _ _
      | exact portreeveref12_Quiet.mono _ _ _ _ _ _
      | exact portreeveref12_Right.mono _ _ _ _ _
      | exact portreeveref12_Tick.mono _ _ _ _ _
      | exact LeO.none _
      | refine LeO.ite ?_ ?_
      | refine LeO.bind ?_ (fun _ => ?_)
def portreevelaw12_AutoTells.T13 : Bool × List (List Nat × List Nat) := (true, [([], []), ([0], [0]), ([1], [1]), ([1], [1]), ([2, 3, 1], [1, 2, 3]), ([1, 4], [1, 4]), ([5, 1], [5]), ([6], [6]), ([6], [6]), ([7, 8, 6, 6], [6, 7, 8]), ([6, 9], [6, 9]), ([10, 9], [10]), ([11], [11]), ([11], [11]), ([12, 13, 11], [11, 12, 13]), ([11, 14], [11, 14]), ([15, 11], [15]), ([16], [16]), ([16], [16]), ([17, 18, 16], [16, 17, 18]), ([16, 19], [16, 19]), ([20, 16], [20]), ([21], [21]), ([21], [21]), ([22, 23, 21, 21], [21, 22, 23]), ([21, 24], [21, 24]), ([25, 24], [25]), ([26], [26]), ([26], [26]), ([27, 28, 26, 26], [26, 27, 28]), ([26], [26]), ([26], [26]), ([30, 31, 29, 26], [26, 30, 31]), ([29, 32, 26], [26, 29, 32]), ([26, 33], [26, 33]), ([34, 32, 0, 1, 2, 3, 4, 5, 6, 7, 8, 9, 10, 11, 12, 13, 14, 15, 16, 17, 18, 19, 20, 21, 22, 23, 24, 25, 26, 27, 28, 29, 30, 31, 32, 33, 34], [34])])
def portreevelaw12_AutoTells.B13 : List Nat := [0, 1, 3, 3, 15, 31, 63, 127, 127, 511, 1023, 2047, 4095, 4095, 16383, 32767, 65535, 131071, 131071, 524287, 1048575, 2097151, 4194303, 4194303, 16777215, 33554431, 67108863, 134217727, 134217727, 536870911, 134217727, 134217727, 4294967295, 8589934591, 17179869183, 34359738367]
theorem portreevelaw12_AutoTells.tab13 : rtab .any (opsOf Tryd.f3 13) = portreevelaw12_AutoTells.T13 := by kernel_rfl
theorem portreevelaw12_AutoTells.bits13 : waitsOk portreevelaw12_AutoTells.T13.2 portreevelaw12_AutoTells.B13 = true := by kernel_rfl
set_option maxHeartbeats 8000000 in
set_option maxRecDepth 100000 in
theorem portreevelaw12_AutoTells.calls (k : Nat) (a0_0 : Int) (a0_1 : Int) (a0_2 : Int) (a0_3 : Int) (a1 : Int) (a2 : Int) (r : Bool) (w : World) (hlaw_ : Aside0 (r = true)) (hgl : Gl w) (h : portreevelaw12_AutoTells.f k a0_0 a0_1 a0_2 a0_3 a1 a2 = some r) :
    Calls Tryd.prog 3 #[.agg #[.int .i64 a0_0, .int .i64 a0_1, .int .i64 a0_2, .int .u8 a0_3], .int .i64 a1, .int .i64 a2] w fun e w' => e = .returned (.bool r) ∧ Below w.heap.size w w' := by
  have hu23 := Tryd.underlying23
  have HB := Aside0.mk (Below.refl w.heap.size w)
  have HGL := Aside0.mk hgl
  clear hgl
  have H : ((portreevelaw12_shown.f k).bind fun t661 => (if a2 < 0 then (portreevelaw12_AutoTells.j0 k a1 a2 t661 true a0_0 a0_1 a0_2 a0_3) else (portreevelaw12_AutoTells.j0 k a1 a2 t661 (decide (a2 > 1000)) a0_0 a0_1 a0_2 a0_3))) = some r := h
  clear h
  replace H := Option.bind_eq_some_iff.mp H
  obtain ⟨t661, A40, H⟩ := H
  replace H : (if a2 < 0 then (portreevelaw12_AutoTells.j0 k a1 a2 t661 true a0_0 a0_1 a0_2 a0_3) else (portreevelaw12_AutoTells.j0 k a1 a2 t661 (decide (a2 > 1000)) a0_0 a0_1 a0_2 a0_3)) = some r := H
  have A4 := Aside0.mk A40
  clear A40
  have HC5 := Aside0.mk H
  clear H
  go_enter Tryd.func3, Tryd.ntmps3
  go_upto_region 2 with (first | ((with_reducible refine gate_dst (N := 3) rfl ?_); refine box_event ?hg (N := 3) ?hd (cs := #[.int .i64 a0_0, .int .i64 a0_1, .int .i64 a0_2, .int .u8 a0_3]) (t := 23) ?hr ?_; (case hd => rfl); (case hg => rfl); (case hr => first | (go_simp; done) | (go_simp; rfl)); intro gb660 hg w6 hbox hb; have n0_ := Aside0.mk (below_step (by repeat (first | (with_reducible first | exact HB.out | apply pA | apply pN | apply pD) | exact HB.out)) hb); have n1_ := Aside0.mk (hbox); have n2_ := Aside0.mk ((by rw [hg]; exact (below_size (by repeat (first | (with_reducible first | exact HB.out | apply pA | apply pN | apply pD) | exact HB.out))) : w.heap.size ≤ gb660)); have n3_ := Aside0.mk ((by rw [hg]; exact (below_size (by repeat (first | (with_reducible first | exact HB.out | apply pA | apply pN | apply pD) | exact HB.out))) : w.heap.size ≤ gb660)); clear HB; have HB := n0_; have BK660 := n1_; have GW660 := n2_; have GE660 := n3_; clear n0_ n1_ n2_ n3_; clear hb hbox hg) | ((with_reducible refine gate_callee (f := 9) rfl ?_); refine goesL_ (some 19) rfl rfl Tryd.func9 (by kernel_rfl) rfl #[] rfl (by (try simp only [List.map_toArray, List.map_cons, List.map_nil]); first | done | rfl | (simp only [List.length_drop, List.length_take]; rfl)) ?_; (with_reducible refine (portreevelaw12_shown.calls k  t661 _ ?side1 A4.out).mono ?_); (case side1 => exact (HGL.out.below (by repeat (first | (with_reducible first | exact HB.out | apply pA | apply pN | apply pD | refine pS ?_ GE660.out) | exact HB.out)))); rintro e w7 ⟨rfl, hb⟩; refine ⟨_, rfl, ?_⟩; have n0_ := Aside0.mk (blk_below (g := gb660) (o := .cells #[.int .i64 a0_0, .int .i64 a0_1, .int .i64 a0_2, .int .u8 a0_3] 23 (0, 0)) (by (with_reducible repeat (first | refine qN ?_ _ | refine qD ?_ | refine qA ?_ _)); exact BK660.out) hb); have n1_ := Aside0.mk (below_step (by repeat (first | (with_reducible first | exact HB.out | apply pA | apply pN | apply pD | refine pS ?_ GE660.out) | exact HB.out)) hb); clear BK660; clear HB; have BK660 := n0_; have HB := n1_; clear n0_ n1_; (try clear hb); (try clear hb2); (try clear hk); (try clear hi)))
  (try simp only [Act.put, List.setIfInBounds_toArray, List.set_cons_zero, List.set_cons_succ])
  go_cut [25] (fun v25 wc => ∃ (kq : Nat) (x25_4 : Bool), v25 = .bool x25_4 ∧ Aside0 (portreevelaw12_AutoTells.j0 kq a1 a2 t661 x25_4 a0_0 a0_1 a0_2 a0_3 = some r) ∧ Aside0 (kq ≤ k) ∧ Aside0 (wc.heap[gb660]? = some (.cells #[.int .i64 a0_0, .int .i64 a0_1, .int .i64 a0_2, .int .u8 a0_3] 23 (0, 0))) ∧ Aside0 (Below w.heap.size w wc))
  case first =>
    have H := HC5.out
    clear HC5
    by_cases c8 : a2 < 0
    · rw [if_pos c8] at H
      have c8b0 : decide (a2 < 0) = true := decide_eq_true c8
      clear c8
      (first | rw [c8b0] | (simp only [i64_w, i32_w]; rw [c8b0]) | skip)
      have H' := Aside0.mk H
      clear H
      go_wp2
      go_meet
      case rel => exact ⟨_, (true), (by first | rfl | (simp; done) | (simp [*]; done)), H', ⟨by first | omega | exact Nat.le_refl _⟩, ⟨by (with_reducible repeat (first | refine qN ?_ _ | refine qD ?_ | refine qA ?_ _)); exact BK660.out⟩, ⟨by repeat (first | (with_reducible first | exact HB.out | apply pA | apply pN | apply pD | refine pS ?_ GE660.out) | exact HB.out)⟩⟩
    · rw [if_neg c8] at H
      have c8b0 : decide (a2 < 0) = false := decide_eq_false c8
      clear c8
      (first | rw [c8b0] | (simp only [i64_w, i32_w]; rw [c8b0]) | skip)
      have H' := Aside0.mk H
      clear H
      go_wp2
      go_meet
      case rel => exact ⟨_, (decide (a2 > 1000)), (by first | rfl | (simp; done) | (simp [*]; done)), H', ⟨by first | omega | exact Nat.le_refl _⟩, ⟨by (with_reducible repeat (first | refine qN ?_ _ | refine qD ?_ | refine qA ?_ _)); exact BK660.out⟩, ⟨by repeat (first | (with_reducible first | exact HB.out | apply pA | apply pN | apply pD | refine pS ?_ GE660.out) | exact HB.out)⟩⟩
  case rest =>
    clear HC5
    try clear p2
    try clear c3
    try clear c8
    try clear c8b0
    obtain ⟨kq, x25_4, rfl, HA, HJ4, BK660, HB⟩ := hcut
    cases kq with
    | zero => exact absurd HA.out (by simp [portreevelaw12_AutoTells.j0])
    | succ kj4 =>
      have H := HA.out
      clear HA
      simp only [portreevelaw12_AutoTells.j0] at H
      by_cases c9 : x25_4 = true
      · subst c9
        have H1 : (some t661) = some r := by rw [if_pos rfl] at H; exact H
        clear H
        have H := H1
        clear H1
        clear hlaw_
        obtain rfl := Option.some.inj H
        go_wp2
        go_ret
        exact ⟨by first | rfl | (simp [errW_none, errW_some] <;> rfl) | (simp [*, errW_none, errW_some] <;> rfl), by repeat (first | (with_reducible first | exact HB.out | apply pA | apply pN | apply pD | refine pS ?_ GE660.out) | exact HB.out)⟩
      · replace c9 := Bool.eq_false_iff.mpr c9
        subst c9
        have H1 : ((portreeveref12_Right.f kj4 a0_0 a0_1 a0_2 a0_3).bind fun t662 => ((auto_Right.f kj4 a0_0 a0_1 a0_2 a0_3).bind fun t663 => (if (t663 != t662) = true then (portreevelaw12_AutoTells.j1 kj4 a1 a2 t661 t662 true a0_0 a0_1 a0_2 a0_3) else ((auto_Bound.f).bind fun t664 => (portreevelaw12_AutoTells.j1 kj4 a1 a2 t661 t662 (t664 != 18) a0_0 a0_1 a0_2 a0_3))))) = some r := by rw [if_neg (show ¬ (false = true) by decide)] at H; exact H
        clear H
        have H := H1
        clear H1
        replace H := Option.bind_eq_some_iff.mp H
        obtain ⟨t662, A100, H⟩ := H
        replace H : ((auto_Right.f kj4 a0_0 a0_1 a0_2 a0_3).bind fun t663 => (if (t663 != t662) = true then (portreevelaw12_AutoTells.j1 kj4 a1 a2 t661 t662 true a0_0 a0_1 a0_2 a0_3) else ((auto_Bound.f).bind fun t664 => (portreevelaw12_AutoTells.j1 kj4 a1 a2 t661 t662 (t664 != 18) a0_0 a0_1 a0_2 a0_3)))) = some r := H
        have A10 := Aside0.mk A100
        clear A100
        have HC11 := Aside0.mk H
        clear H
        have hcz12_0 : wc.cell? ⟨gb660, 0, none⟩ = some (.int .i64 a0_0) := (blk_cell BK660.out 0).trans rfl
        have hcz12_1 : wc.cell? ⟨gb660, 1, none⟩ = some (.int .i64 a0_1) := (blk_cell BK660.out 1).trans rfl
        have hcz12_2 : wc.cell? ⟨gb660, 2, none⟩ = some (.int .i64 a0_2) := (blk_cell BK660.out 2).trans rfl
        have hcz12_3 : wc.cell? ⟨gb660, 3, none⟩ = some (.int .u8 a0_3) := (blk_cell BK660.out 3).trans rfl
        have hfz12_0 := blk_frozen BK660.out 0
        have hfz12_1 := blk_frozen BK660.out 1
        have hfz12_2 := blk_frozen BK660.out 2
        have hfz12_3 := blk_frozen BK660.out 3
        go_upto_region 5 with (first | ((with_reducible refine gate_callee (f := 10) rfl ?_); refine goesL_ (some 28) rfl rfl Tryd.func10 (by kernel_rfl) rfl #[.agg #[.int .i64 a0_0, .int .i64 a0_1, .int .i64 a0_2, .int .u8 a0_3]] rfl (by (try simp only [List.map_toArray, List.map_cons, List.map_nil]); first | done | rfl | (simp only [List.length_drop, List.length_take]; rfl)) ?_; (with_reducible refine (portreeveref12_Right.calls kj4 a0_0 a0_1 a0_2 a0_3 t662 _ A10.out).mono ?_); rintro e w13 ⟨rfl, hb⟩; refine ⟨_, rfl, ?_⟩; have n0_ := Aside0.mk (blk_below (g := gb660) (o := .cells #[.int .i64 a0_0, .int .i64 a0_1, .int .i64 a0_2, .int .u8 a0_3] 23 (0, 0)) (by (with_reducible repeat (first | refine qN ?_ _ | refine qD ?_ | refine qA ?_ _)); exact BK660.out) hb); have n1_ := Aside0.mk (below_step (by repeat (first | (with_reducible first | exact HB.out | apply pA | apply pN | apply pD | refine pS ?_ GE660.out) | exact HB.out)) hb); clear BK660; clear HB; have BK660 := n0_; have HB := n1_; clear n0_ n1_; (try clear hb); (try clear hb2); (try clear hk); (try clear hi)))
        (try simp only [Act.put, List.setIfInBounds_toArray, List.set_cons_zero, List.set_cons_succ])
        go_cut [36] (fun v36 wc => ∃ (kq : Nat) (x36_10 : Bool), v36 = .bool x36_10 ∧ Aside0 (portreevelaw12_AutoTells.j1 kq a1 a2 t661 t662 x36_10 a0_0 a0_1 a0_2 a0_3 = some r) ∧ Aside0 (kq ≤ kj4) ∧ Aside0 (wc.heap[gb660]? = some (.cells #[.int .i64 a0_0, .int .i64 a0_1, .int .i64 a0_2, .int .u8 a0_3] 23 (0, 0))) ∧ Aside0 (Below w.heap.size w wc))
        case first =>
          have H := HC11.out
          clear HC11
          replace H := Option.bind_eq_some_iff.mp H
          obtain ⟨t663, A140, H⟩ := H
          replace H : (if (t663 != t662) = true then (portreevelaw12_AutoTells.j1 kj4 a1 a2 t661 t662 true a0_0 a0_1 a0_2 a0_3) else ((auto_Bound.f).bind fun t664 => (portreevelaw12_AutoTells.j1 kj4 a1 a2 t661 t662 (t664 != 18) a0_0 a0_1 a0_2 a0_3))) = some r := H
          have A14 := Aside0.mk A140
          clear A140
          by_cases c15 : (t663 != t662) = true
          · rw [if_pos c15] at H
            have c15b0 : (t663 != t662) = true := c15
            (try (have c15b1 : decide (t663 = t662) = false := by simpa using c15))
            (try (have c15b2 : (t663 == t662) = false := by simpa using c15))
            (try (have c15b3 : ¬ (t663 = t662) := by simpa using c15))
            clear c15
            (first | rw [c15b0] | (simp only [i64_w, i32_w]; rw [c15b0]) | skip)
            have H' := Aside0.mk H
            clear H
            have hcz16_0 : w13.cell? ⟨gb660, 0, none⟩ = some (.int .i64 a0_0) := (blk_cell BK660.out 0).trans rfl
            have hcz16_1 : w13.cell? ⟨gb660, 1, none⟩ = some (.int .i64 a0_1) := (blk_cell BK660.out 1).trans rfl
            have hcz16_2 : w13.cell? ⟨gb660, 2, none⟩ = some (.int .i64 a0_2) := (blk_cell BK660.out 2).trans rfl
            have hcz16_3 : w13.cell? ⟨gb660, 3, none⟩ = some (.int .u8 a0_3) := (blk_cell BK660.out 3).trans rfl
            have hfz16_0 := blk_frozen BK660.out 0
            have hfz16_1 := blk_frozen BK660.out 1
            have hfz16_2 := blk_frozen BK660.out 2
            have hfz16_3 := blk_frozen BK660.out 3
            go_wp2_with (first | ((with_reducible refine gate_callee (f := 11) rfl ?_); refine goesL_ (some 30) rfl rfl Tryd.func11 (by kernel_rfl) rfl #[.agg #[.int .i64 a0_0, .int .i64 a0_1, .int .i64 a0_2, .int .u8 a0_3]] rfl (by (try simp only [List.map_toArray, List.map_cons, List.map_nil]); first | done | rfl | (simp only [List.length_drop, List.length_take]; rfl)) ?_; (with_reducible refine (auto_Right.calls kj4 a0_0 a0_1 a0_2 a0_3 t663 _ A14.out).mono ?_); rintro e w17 ⟨rfl, hb⟩; refine ⟨_, rfl, ?_⟩; have n0_ := Aside0.mk (blk_below (g := gb660) (o := .cells #[.int .i64 a0_0, .int .i64 a0_1, .int .i64 a0_2, .int .u8 a0_3] 23 (0, 0)) (by (with_reducible repeat (first | refine qN ?_ _ | refine qD ?_ | refine qA ?_ _)); exact BK660.out) hb); have n1_ := Aside0.mk (below_step (by repeat (first | (with_reducible first | exact HB.out | apply pA | apply pN | apply pD | refine pS ?_ GE660.out) | exact HB.out)) hb); clear BK660; clear HB; have BK660 := n0_; have HB := n1_; clear n0_ n1_; (try clear hb); (try clear hb2); (try clear hk); (try clear hi)))
            go_meet
            case rel => exact ⟨_, (true), (by first | rfl | (simp; done) | (simp [*]; done)), H', ⟨by have := HJ4.out; first | omega | exact Nat.le_refl _⟩, ⟨by (with_reducible repeat (first | refine qN ?_ _ | refine qD ?_ | refine qA ?_ _)); exact BK660.out⟩, ⟨by repeat (first | (with_reducible first | exact HB.out | apply pA | apply pN | apply pD | refine pS ?_ GE660.out) | exact HB.out)⟩⟩
          · rw [if_neg c15] at H
            have c15b0 : (t663 != t662) = false := by simpa using c15
            (try (have c15b1 : decide (t663 = t662) = true := by simpa using c15))
            (try (have c15b2 : (t663 == t662) = true := by simpa using c15))
            clear c15
            (first | rw [c15b0] | (simp only [i64_w, i32_w]; rw [c15b0]) | skip)
            replace H := Option.bind_eq_some_iff.mp H
            obtain ⟨t664, A180, H⟩ := H
            replace H : (portreevelaw12_AutoTells.j1 kj4 a1 a2 t661 t662 (t664 != 18) a0_0 a0_1 a0_2 a0_3) = some r := H
            have A18 := Aside0.mk A180
            clear A180
            have H' := Aside0.mk H
            clear H
            have hcz19_0 : w13.cell? ⟨gb660, 0, none⟩ = some (.int .i64 a0_0) := (blk_cell BK660.out 0).trans rfl
            have hcz19_1 : w13.cell? ⟨gb660, 1, none⟩ = some (.int .i64 a0_1) := (blk_cell BK660.out 1).trans rfl
            have hcz19_2 : w13.cell? ⟨gb660, 2, none⟩ = some (.int .i64 a0_2) := (blk_cell BK660.out 2).trans rfl
            have hcz19_3 : w13.cell? ⟨gb660, 3, none⟩ = some (.int .u8 a0_3) := (blk_cell BK660.out 3).trans rfl
            have hfz19_0 := blk_frozen BK660.out 0
            have hfz19_1 := blk_frozen BK660.out 1
            have hfz19_2 := blk_frozen BK660.out 2
            have hfz19_3 := blk_frozen BK660.out 3
            go_wp2_with (first | ((with_reducible refine gate_callee (f := 11) rfl ?_); refine goesL_ (some 30) rfl rfl Tryd.func11 (by kernel_rfl) rfl #[.agg #[.int .i64 a0_0, .int .i64 a0_1, .int .i64 a0_2, .int .u8 a0_3]] rfl (by (try simp only [List.map_toArray, List.map_cons, List.map_nil]); first | done | rfl | (simp only [List.length_drop, List.length_take]; rfl)) ?_; (with_reducible refine (auto_Right.calls kj4 a0_0 a0_1 a0_2 a0_3 t663 _ A14.out).mono ?_); rintro e w20 ⟨rfl, hb⟩; refine ⟨_, rfl, ?_⟩; have n0_ := Aside0.mk (blk_below (g := gb660) (o := .cells #[.int .i64 a0_0, .int .i64 a0_1, .int .i64 a0_2, .int .u8 a0_3] 23 (0, 0)) (by (with_reducible repeat (first | refine qN ?_ _ | refine qD ?_ | refine qA ?_ _)); exact BK660.out) hb); have n1_ := Aside0.mk (below_step (by repeat (first | (with_reducible first | exact HB.out | apply pA | apply pN | apply pD | refine pS ?_ GE660.out) | exact HB.out)) hb); clear BK660; clear HB; have BK660 := n0_; have HB := n1_; clear n0_ n1_; (try clear hb); (try clear hb2); (try clear hk); (try clear hi)) | (go_at_call 12; (with_reducible refine (auto_Bound.calls  t664 _ A18.out).mono ?_); rintro e w' ⟨rfl, ⟨nd, rfl⟩⟩))
            go_meet
            case rel => exact ⟨_, ((t664 != 18)), (by first | rfl | (simp; done) | (simp [*]; done)), H', ⟨by have := HJ4.out; first | omega | exact Nat.le_refl _⟩, ⟨by (with_reducible repeat (first | refine qN ?_ _ | refine qD ?_ | refine qA ?_ _)); exact BK660.out⟩, ⟨by repeat (first | (with_reducible first | exact HB.out | apply pA | apply pN | apply pD | refine pS ?_ GE660.out) | exact HB.out)⟩⟩
        case rest =>
          clear HC11
          try clear c1
          try clear p2
          try clear c3
          try clear c8
          try clear c8b0
          try clear c9
          try clear c10
          try clear c11
          try clear c15
          try clear c15b0
          try clear c15b1
          try clear c15b2
          try clear hcz12_0
          try clear hcz12_1
          try clear hcz12_2
          try clear hcz12_3
          try clear hcz16_0
          try clear hcz16_1
          try clear hcz16_2
          try clear hcz16_3
          try clear hcz19_0
          try clear hcz19_1
          try clear hcz19_2
          try clear hcz19_3
          try clear hfz12_0
          try clear hfz12_1
          try clear hfz12_2
          try clear hfz12_3
          try clear hfz16_0
          try clear hfz16_1
          try clear hfz16_2
          try clear hfz16_3
          try clear hfz19_0
          try clear hfz19_1
          try clear hfz19_2
          try clear hfz19_3
          try clear p2
          obtain ⟨kq, x36_10, rfl, HA, HJ10, BK660, HB⟩ := hcut
          cases kq with
          | zero => exact absurd HA.out (by simp [portreevelaw12_AutoTells.j1])
          | succ kj10 =>
            have H := HA.out
            clear HA
            simp only [portreevelaw12_AutoTells.j1] at H
            by_cases c21 : x36_10 = true
            · subst c21
              have H1 : (some false) = some r := by rw [if_pos rfl] at H; exact H
              clear H
              have H := H1
              clear H1
              exact absurd ((Option.some.inj H).trans hlaw_.out) (by decide)
            · replace c21 := Bool.eq_false_iff.mpr c21
              subst c21
              have H1 : (if t662 = true then ((auto_Do.f a0_0 a0_1 a0_2 a0_3 a1).bind fun bt665 => ((portreeveref12_Do.f kj10 a0_0 a0_1 a0_2 a0_3 a1).bind fun bt674 => ((auto_Tick.f a0_0 a0_1 a0_2 a0_3).bind fun bt683 => ((portreeveref12_Tick.f kj10 a0_0 a0_1 a0_2 a0_3).bind fun bt691 => (if t661 = true then (if (bt665.1 == bt674.1 && (bt665.2.1 == bt674.2.1 && (bt665.2.2.1 == bt674.2.2.1 && (bt665.2.2.2.1 == bt674.2.2.2.1)))) = true then ((portreeveref11_Ints.f kj10 bt665.2.2.2.2.1 bt674.2.2.2.2.1).bind fun t699 => (if t699 = true then (if bt665.2.2.2.2.2 = bt674.2.2.2.2.2 then (if (bt683.1 == bt691.1 && (bt683.2.1 == bt691.2.1 && (bt683.2.2.1 == bt691.2.2.1 && (bt683.2.2.2.1 == bt691.2.2.2.1)))) = true then ((portreeveref11_Ints.f kj10 bt683.2.2.2.2 bt691.2.2.2.2).bind fun t700 => (if t700 = true then ((auto_Quiet.f kj10 a0_0 a0_1 a0_2 a0_3 a2).bind fun bt701 => ((portreeveref12_Quiet.f kj10 a0_0 a0_1 a0_2 a0_3 a2).bind fun bt705 => (some (bt701.1 == bt705.1 && (bt701.2.1 == bt705.2.1 && (bt701.2.2.1 == bt705.2.2.1 && (bt701.2.2.2 == bt705.2.2.2))))))) else (some false))) else (some false)) else (some false)) else (some false))) else (some false)) else (some false)))))) else (some t661)) = some r := by rw [if_neg (show ¬ (false = true) by decide)] at H; exact H
              clear H
              have H := H1
              clear H1
              by_cases c22 : t662 = true
              · subst c22
                have H1 : ((auto_Do.f a0_0 a0_1 a0_2 a0_3 a1).bind fun bt665 => ((portreeveref12_Do.f kj10 a0_0 a0_1 a0_2 a0_3 a1).bind fun bt674 => ((auto_Tick.f a0_0 a0_1 a0_2 a0_3).bind fun bt683 => ((portreeveref12_Tick.f kj10 a0_0 a0_1 a0_2 a0_3).bind fun bt691 => (if t661 = true then (if (bt665.1 == bt674.1 && (bt665.2.1 == bt674.2.1 && (bt665.2.2.1 == bt674.2.2.1 && (bt665.2.2.2.1 == bt674.2.2.2.1)))) = true then ((portreeveref11_Ints.f kj10 bt665.2.2.2.2.1 bt674.2.2.2.2.1).bind fun t699 => (if t699 = true then (if bt665.2.2.2.2.2 = bt674.2.2.2.2.2 then (if (bt683.1 == bt691.1 && (bt683.2.1 == bt691.2.1 && (bt683.2.2.1 == bt691.2.2.1 && (bt683.2.2.2.1 == bt691.2.2.2.1)))) = true then ((portreeveref11_Ints.f kj10 bt683.2.2.2.2 bt691.2.2.2.2).bind fun t700 => (if t700 = true then ((auto_Quiet.f kj10 a0_0 a0_1 a0_2 a0_3 a2).bind fun bt701 => ((portreeveref12_Quiet.f kj10 a0_0 a0_1 a0_2 a0_3 a2).bind fun bt705 => (some (bt701.1 == bt705.1 && (bt701.2.1 == bt705.2.1 && (bt701.2.2.1 == bt705.2.2.1 && (bt701.2.2.2 == bt705.2.2.2))))))) else (some false))) else (some false)) else (some false)) else (some false))) else (some false)) else (some false)))))) = some r := by rw [if_pos rfl] at H; exact H
                clear H
                have H := H1
                clear H1
                replace H := Option.bind_eq_some_iff.mp H
                obtain ⟨⟨t665, t666, t667, t668, t669, t672⟩, A230, H⟩ := H
                replace H : ((portreeveref12_Do.f kj10 a0_0 a0_1 a0_2 a0_3 a1).bind fun bt674 => ((auto_Tick.f a0_0 a0_1 a0_2 a0_3).bind fun bt683 => ((portreeveref12_Tick.f kj10 a0_0 a0_1 a0_2 a0_3).bind fun bt691 => (if t661 = true then (if (t665 == bt674.1 && (t666 == bt674.2.1 && (t667 == bt674.2.2.1 && (t668 == bt674.2.2.2.1)))) = true then ((portreeveref11_Ints.f kj10 t669 bt674.2.2.2.2.1).bind fun t699 => (if t699 = true then (if t672 = bt674.2.2.2.2.2 then (if (bt683.1 == bt691.1 && (bt683.2.1 == bt691.2.1 && (bt683.2.2.1 == bt691.2.2.1 && (bt683.2.2.2.1 == bt691.2.2.2.1)))) = true then ((portreeveref11_Ints.f kj10 bt683.2.2.2.2 bt691.2.2.2.2).bind fun t700 => (if t700 = true then ((auto_Quiet.f kj10 a0_0 a0_1 a0_2 a0_3 a2).bind fun bt701 => ((portreeveref12_Quiet.f kj10 a0_0 a0_1 a0_2 a0_3 a2).bind fun bt705 => (some (bt701.1 == bt705.1 && (bt701.2.1 == bt705.2.1 && (bt701.2.2.1 == bt705.2.2.1 && (bt701.2.2.2 == bt705.2.2.2))))))) else (some false))) else (some false)) else (some false)) else (some false))) else (some false)) else (some false))))) = some r := H
                have A23 := Aside0.mk A230
                clear A230
                replace H := Option.bind_eq_some_iff.mp H
                obtain ⟨⟨t674, t675, t676, t677, t678, t681⟩, A240, H⟩ := H
                replace H : ((auto_Tick.f a0_0 a0_1 a0_2 a0_3).bind fun bt683 => ((portreeveref12_Tick.f kj10 a0_0 a0_1 a0_2 a0_3).bind fun bt691 => (if t661 = true then (if (t665 == t674 && (t666 == t675 && (t667 == t676 && (t668 == t677)))) = true then ((portreeveref11_Ints.f kj10 t669 t678).bind fun t699 => (if t699 = true then (if t672 = t681 then (if (bt683.1 == bt691.1 && (bt683.2.1 == bt691.2.1 && (bt683.2.2.1 == bt691.2.2.1 && (bt683.2.2.2.1 == bt691.2.2.2.1)))) = true then ((portreeveref11_Ints.f kj10 bt683.2.2.2.2 bt691.2.2.2.2).bind fun t700 => (if t700 = true then ((auto_Quiet.f kj10 a0_0 a0_1 a0_2 a0_3 a2).bind fun bt701 => ((portreeveref12_Quiet.f kj10 a0_0 a0_1 a0_2 a0_3 a2).bind fun bt705 => (some (bt701.1 == bt705.1 && (bt701.2.1 == bt705.2.1 && (bt701.2.2.1 == bt705.2.2.1 && (bt701.2.2.2 == bt705.2.2.2))))))) else (some false))) else (some false)) else (some false)) else (some false))) else (some false)) else (some false)))) = some r := H
                have A24 := Aside0.mk A240
                clear A240
                replace H := Option.bind_eq_some_iff.mp H
                obtain ⟨⟨t683, t684, t685, t686, t687⟩, A250, H⟩ := H
                replace H : ((portreeveref12_Tick.f kj10 a0_0 a0_1 a0_2 a0_3).bind fun bt691 => (if t661 = true then (if (t665 == t674 && (t666 == t675 && (t667 == t676 && (t668 == t677)))) = true then ((portreeveref11_Ints.f kj10 t669 t678).bind fun t699 => (if t699 = true then (if t672 = t681 then (if (t683 == bt691.1 && (t684 == bt691.2.1 && (t685 == bt691.2.2.1 && (t686 == bt691.2.2.2.1)))) = true then ((portreeveref11_Ints.f kj10 t687 bt691.2.2.2.2).bind fun t700 => (if t700 = true then ((auto_Quiet.f kj10 a0_0 a0_1 a0_2 a0_3 a2).bind fun bt701 => ((portreeveref12_Quiet.f kj10 a0_0 a0_1 a0_2 a0_3 a2).bind fun bt705 => (some (bt701.1 == bt705.1 && (bt701.2.1 == bt705.2.1 && (bt701.2.2.1 == bt705.2.2.1 && (bt701.2.2.2 == bt705.2.2.2))))))) else (some false))) else (some false)) else (some false)) else (some false))) else (some false)) else (some false))) = some r := H
                have A25 := Aside0.mk A250
                clear A250
                replace H := Option.bind_eq_some_iff.mp H
                obtain ⟨⟨t691, t692, t693, t694, t695⟩, A260, H⟩ := H
                replace H : (if t661 = true then (if (t665 == t674 && (t666 == t675 && (t667 == t676 && (t668 == t677)))) = true then ((portreeveref11_Ints.f kj10 t669 t678).bind fun t699 => (if t699 = true then (if t672 = t681 then (if (t683 == t691 && (t684 == t692 && (t685 == t693 && (t686 == t694)))) = true then ((portreeveref11_Ints.f kj10 t687 t695).bind fun t700 => (if t700 = true then ((auto_Quiet.f kj10 a0_0 a0_1 a0_2 a0_3 a2).bind fun bt701 => ((portreeveref12_Quiet.f kj10 a0_0 a0_1 a0_2 a0_3 a2).bind fun bt705 => (some (bt701.1 == bt705.1 && (bt701.2.1 == bt705.2.1 && (bt701.2.2.1 == bt705.2.2.1 && (bt701.2.2.2 == bt705.2.2.2))))))) else (some false))) else (some false)) else (some false)) else (some false))) else (some false)) else (some false)) = some r := H
                have A26 := Aside0.mk A260
                clear A260
                by_cases c27 : t661 = true
                · subst c27
                  have H1 : (if (t665 == t674 && (t666 == t675 && (t667 == t676 && (t668 == t677)))) = true then ((portreeveref11_Ints.f kj10 t669 t678).bind fun t699 => (if t699 = true then (if t672 = t681 then (if (t683 == t691 && (t684 == t692 && (t685 == t693 && (t686 == t694)))) = true then ((portreeveref11_Ints.f kj10 t687 t695).bind fun t700 => (if t700 = true then ((auto_Quiet.f kj10 a0_0 a0_1 a0_2 a0_3 a2).bind fun bt701 => ((portreeveref12_Quiet.f kj10 a0_0 a0_1 a0_2 a0_3 a2).bind fun bt705 => (some (bt701.1 == bt705.1 && (bt701.2.1 == bt705.2.1 && (bt701.2.2.1 == bt705.2.2.1 && (bt701.2.2.2 == bt705.2.2.2))))))) else (some false))) else (some false)) else (some false)) else (some false))) else (some false)) = some r := by rw [if_pos rfl] at H; exact H
                  clear H
                  have H := H1
                  clear H1
                  by_cases c28 : (t665 == t674 && (t666 == t675 && (t667 == t676 && (t668 == t677)))) = true
                  · rw [if_pos c28] at H
                    have c28b0 : (t665 == t674 && (t666 == t675 && (t667 == t676 && (t668 == t677)))) = true := c28
                    (try (have c28b1 : decide (t665 = t674 && (t666 == t675 && (t667 == t676 && (t668 == t677)))) = true := by simpa using c28))
                    (try (have c28b2 : (t665 == t674 && (t666 == t675 && (t667 == t676 && (t668 == t677)))) = true := by simpa using c28))
                    clear c28
                    replace H := Option.bind_eq_some_iff.mp H
                    obtain ⟨t699, A290, H⟩ := H
                    replace H : (if t699 = true then (if t672 = t681 then (if (t683 == t691 && (t684 == t692 && (t685 == t693 && (t686 == t694)))) = true then ((portreeveref11_Ints.f kj10 t687 t695).bind fun t700 => (if t700 = true then ((auto_Quiet.f kj10 a0_0 a0_1 a0_2 a0_3 a2).bind fun bt701 => ((portreeveref12_Quiet.f kj10 a0_0 a0_1 a0_2 a0_3 a2).bind fun bt705 => (some (bt701.1 == bt705.1 && (bt701.2.1 == bt705.2.1 && (bt701.2.2.1 == bt705.2.2.1 && (bt701.2.2.2 == bt705.2.2.2))))))) else (some false))) else (some false)) else (some false)) else (some false)) = some r := H
                    have A29 := Aside0.mk A290
                    clear A290
                    by_cases c30 : t699 = true
                    · subst c30
                      have H1 : (if t672 = t681 then (if (t683 == t691 && (t684 == t692 && (t685 == t693 && (t686 == t694)))) = true then ((portreeveref11_Ints.f kj10 t687 t695).bind fun t700 => (if t700 = true then ((auto_Quiet.f kj10 a0_0 a0_1 a0_2 a0_3 a2).bind fun bt701 => ((portreeveref12_Quiet.f kj10 a0_0 a0_1 a0_2 a0_3 a2).bind fun bt705 => (some (bt701.1 == bt705.1 && (bt701.2.1 == bt705.2.1 && (bt701.2.2.1 == bt705.2.2.1 && (bt701.2.2.2 == bt705.2.2.2))))))) else (some false))) else (some false)) else (some false)) = some r := by rw [if_pos rfl] at H; exact H
                      clear H
                      have H := H1
                      clear H1
                      by_cases c31 : t672 = t681
                      · rw [if_pos c31] at H
                        have c31b0 : (t672 == t681) = true := beq_iff_eq.mpr c31
                        have c31b1 : (t672 != t681) = false := bne_eq_false_iff_eq.mpr c31
                        clear c31
                        by_cases c32 : (t683 == t691 && (t684 == t692 && (t685 == t693 && (t686 == t694)))) = true
                        · rw [if_pos c32] at H
                          have c32b0 : (t683 == t691 && (t684 == t692 && (t685 == t693 && (t686 == t694)))) = true := c32
                          (try (have c32b1 : decide (t683 = t691 && (t684 == t692 && (t685 == t693 && (t686 == t694)))) = true := by simpa using c32))
                          (try (have c32b2 : (t683 == t691 && (t684 == t692 && (t685 == t693 && (t686 == t694)))) = true := by simpa using c32))
                          clear c32
                          replace H := Option.bind_eq_some_iff.mp H
                          obtain ⟨t700, A330, H⟩ := H
                          replace H : (if t700 = true then ((auto_Quiet.f kj10 a0_0 a0_1 a0_2 a0_3 a2).bind fun bt701 => ((portreeveref12_Quiet.f kj10 a0_0 a0_1 a0_2 a0_3 a2).bind fun bt705 => (some (bt701.1 == bt705.1 && (bt701.2.1 == bt705.2.1 && (bt701.2.2.1 == bt705.2.2.1 && (bt701.2.2.2 == bt705.2.2.2))))))) else (some false)) = some r := H
                          have A33 := Aside0.mk A330
                          clear A330
                          by_cases c34 : t700 = true
                          · subst c34
                            have H1 : ((auto_Quiet.f kj10 a0_0 a0_1 a0_2 a0_3 a2).bind fun bt701 => ((portreeveref12_Quiet.f kj10 a0_0 a0_1 a0_2 a0_3 a2).bind fun bt705 => (some (bt701.1 == bt705.1 && (bt701.2.1 == bt705.2.1 && (bt701.2.2.1 == bt705.2.2.1 && (bt701.2.2.2 == bt705.2.2.2))))))) = some r := by rw [if_pos rfl] at H; exact H
                            clear H
                            have H := H1
                            clear H1
                            replace H := Option.bind_eq_some_iff.mp H
                            obtain ⟨⟨t701, t702, t703, t704⟩, A350, H⟩ := H
                            replace H : ((portreeveref12_Quiet.f kj10 a0_0 a0_1 a0_2 a0_3 a2).bind fun bt705 => (some (t701 == bt705.1 && (t702 == bt705.2.1 && (t703 == bt705.2.2.1 && (t704 == bt705.2.2.2)))))) = some r := H
                            have A35 := Aside0.mk A350
                            clear A350
                            replace H := Option.bind_eq_some_iff.mp H
                            obtain ⟨⟨t705, t706, t707, t708⟩, A360, H⟩ := H
                            replace H : (some (t701 == t705 && (t702 == t706 && (t703 == t707 && (t704 == t708))))) = some r := H
                            have A36 := Aside0.mk A360
                            clear A360
                            clear hlaw_
                            obtain rfl := Option.some.inj H
                            have hcz37_0 : wc.cell? ⟨gb660, 0, none⟩ = some (.int .i64 a0_0) := (blk_cell BK660.out 0).trans rfl
                            have hcz37_1 : wc.cell? ⟨gb660, 1, none⟩ = some (.int .i64 a0_1) := (blk_cell BK660.out 1).trans rfl
                            have hcz37_2 : wc.cell? ⟨gb660, 2, none⟩ = some (.int .i64 a0_2) := (blk_cell BK660.out 2).trans rfl
                            have hcz37_3 : wc.cell? ⟨gb660, 3, none⟩ = some (.int .u8 a0_3) := (blk_cell BK660.out 3).trans rfl
                            have hfz37_0 := blk_frozen BK660.out 0
                            have hfz37_1 := blk_frozen BK660.out 1
                            have hfz37_2 := blk_frozen BK660.out 2
                            have hfz37_3 := blk_frozen BK660.out 3
                            try go_wp2_with (first | ((with_reducible refine gate_callee (f := 13) rfl ?_); refine goesL_ (some 43) rfl rfl Tryd.func13 (by kernel_rfl) rfl #[.agg #[.int .i64 a0_0, .int .i64 a0_1, .int .i64 a0_2, .int .u8 a0_3], .int .i64 a1] rfl (by (try simp only [List.map_toArray, List.map_cons, List.map_nil]); first | done | rfl | (simp only [List.length_drop, List.length_take]; rfl)) ?_; (with_reducible refine (auto_Do.calls a0_0 a0_1 a0_2 a0_3 a1 t665 t666 t667 t668 t669 t672 _ ?side1 A23.out).mono ?_); (case side1 => exact (HGL.out.below (by repeat (first | (with_reducible first | exact HB.out | apply pA | apply pN | apply pD | refine pS ?_ GE660.out) | exact HB.out)))); rintro e w38 ⟨v670, rfl, ho0, hb⟩; refine ⟨_, rfl, ?_⟩; have n0_ := Aside0.mk (Kd.R_lower ho0 (below_size (by repeat (first | (with_reducible first | exact HB.out | apply pA | apply pN | apply pD | refine pS ?_ GE660.out) | exact HB.out)))); have n1_ := Aside0.mk (blk_below (g := gb660) (o := .cells #[.int .i64 a0_0, .int .i64 a0_1, .int .i64 a0_2, .int .u8 a0_3] 23 (0, 0)) (by (with_reducible repeat (first | refine qN ?_ _ | refine qD ?_ | refine qA ?_ _)); exact BK660.out) hb); have n2_ := Aside0.mk (below_step (by repeat (first | (with_reducible first | exact HB.out | apply pA | apply pN | apply pD | refine pS ?_ GE660.out) | exact HB.out)) hb); clear BK660; clear HB; have HO671 := n0_; have BK660 := n1_; have HB := n2_; clear n0_ n1_ n2_; (try clear hb); (try clear hb2); (try clear hk); (try clear hi); (try clear ho0)) | ((with_reducible refine gate_dst (N := 9) rfl ?_); refine box_event ?hg (N := 9) ?hd (cs := #[.int .i64 0, .int .i64 0, .int .i64 0, .int .u8 0]) (t := 23) ?hr ?_; (case hd => rfl); (case hg => rfl); (case hr => first | (go_simp; done) | (go_simp; rfl)); intro gb673 hg w39 hbox hb; have n0_ := Aside0.mk (Kd.R_below (by (with_reducible repeat (first | apply Kd.R_alloc | apply Kd.R_drewN | apply Kd.R_drew)); exact HO671.out) hb); have n1_ := Aside0.mk (blk_below (g := gb660) (o := .cells #[.int .i64 a0_0, .int .i64 a0_1, .int .i64 a0_2, .int .u8 a0_3] 23 (0, 0)) (by (with_reducible repeat (first | refine qN ?_ _ | refine qD ?_ | refine qA ?_ _)); exact BK660.out) hb); have n2_ := Aside0.mk (below_step (by repeat (first | (with_reducible first | exact HB.out | apply pA | apply pN | apply pD | refine pS ?_ GE660.out) | exact HB.out)) hb); have n3_ := Aside0.mk (hbox); have n4_ := Aside0.mk ((by rw [hg]; exact (below_size (by repeat (first | (with_reducible first | exact HB.out | apply pA | apply pN | apply pD | refine pS ?_ GE660.out) | exact HB.out))) : w.heap.size ≤ gb673)); have n5_ := Aside0.mk ((by rw [hg]; exact (below_size (by repeat (first | (with_reducible first | exact HB.out | apply pA | apply pN | apply pD | refine pS ?_ GE660.out) | exact HB.out))) : w.heap.size ≤ gb673)); have n6_ := Aside0.mk ((by rw [hg]; exact Nat.ne_of_lt (blk_lt (g := gb660) (o := .cells #[.int .i64 a0_0, .int .i64 a0_1, .int .i64 a0_2, .int .u8 a0_3] 23 (0, 0)) (by (with_reducible repeat (first | refine qN ?_ _ | refine qD ?_ | refine qA ?_ _)); exact BK660.out)) : gb660 ≠ gb673)); have n7_ := Aside0.mk ((by rw [hg]; exact Nat.ne_of_gt (blk_lt (g := gb660) (o := .cells #[.int .i64 a0_0, .int .i64 a0_1, .int .i64 a0_2, .int .u8 a0_3] 23 (0, 0)) (by (with_reducible repeat (first | refine qN ?_ _ | refine qD ?_ | refine qA ?_ _)); exact BK660.out)) : gb673 ≠ gb660)); clear HO671; clear BK660; clear HB; have HO671 := n0_; have BK660 := n1_; have HB := n2_; have BK673 := n3_; have GW673 := n4_; have GE673 := n5_; have NB660_673 := n6_; have NB673_660 := n7_; clear n0_ n1_ n2_ n3_ n4_ n5_ n6_ n7_; clear hb hbox hg; have hnb40 := NB673_660.out; have hnc40 := NB660_673.out; have hcz41_0 : w39.cell? ⟨gb673, 0, none⟩ = some (.int .i64 0) := (blk_cell BK673.out 0).trans rfl; have hcz41_1 : w39.cell? ⟨gb673, 1, none⟩ = some (.int .i64 0) := (blk_cell BK673.out 1).trans rfl; have hcz41_2 : w39.cell? ⟨gb673, 2, none⟩ = some (.int .i64 0) := (blk_cell BK673.out 2).trans rfl; have hcz41_3 : w39.cell? ⟨gb673, 3, none⟩ = some (.int .u8 0) := (blk_cell BK673.out 3).trans rfl; have hfz41_0 := blk_frozen BK673.out 0; have hfz41_1 := blk_frozen BK673.out 1; have hfz41_2 := blk_frozen BK673.out 2; have hfz41_3 := blk_frozen BK673.out 3; have hcz42_0 : w39.cell? ⟨gb660, 0, none⟩ = some (.int .i64 a0_0) := (blk_cell BK660.out 0).trans rfl; have hcz42_1 : w39.cell? ⟨gb660, 1, none⟩ = some (.int .i64 a0_1) := (blk_cell BK660.out 1).trans rfl; have hcz42_2 : w39.cell? ⟨gb660, 2, none⟩ = some (.int .i64 a0_2) := (blk_cell BK660.out 2).trans rfl; have hcz42_3 : w39.cell? ⟨gb660, 3, none⟩ = some (.int .u8 a0_3) := (blk_cell BK660.out 3).trans rfl; have hfz42_0 := blk_frozen BK660.out 0; have hfz42_1 := blk_frozen BK660.out 1; have hfz42_2 := blk_frozen BK660.out 2; have hfz42_3 := blk_frozen BK660.out 3) | ((with_reducible refine gate_callee (f := 14) rfl ?_); refine goesL_ (some 50) rfl rfl Tryd.func14 (by kernel_rfl) rfl #[.agg #[.int .i64 a0_0, .int .i64 a0_1, .int .i64 a0_2, .int .u8 a0_3], .int .i64 a1] rfl (by (try simp only [List.map_toArray, List.map_cons, List.map_nil]); first | done | rfl | (simp only [List.length_drop, List.length_take]; rfl)) ?_; (with_reducible refine (portreeveref12_Do.calls kj10 a0_0 a0_1 a0_2 a0_3 a1 t674 t675 t676 t677 t678 t681 _ A24.out).mono ?_); rintro e w43 ⟨v679, rfl, ho0, hb⟩; refine ⟨_, rfl, ?_⟩; have n0_ := Aside0.mk (Kd.R_below (by (with_reducible repeat (first | apply Kd.R_alloc | apply Kd.R_drewN | apply Kd.R_drew)); exact (Kd.R_mono (Kd.R_far (p := ⟨gb673, 3, none⟩) (Kd.R_far (p := ⟨gb673, 2, none⟩) (Kd.R_far (p := ⟨gb673, 1, none⟩) (Kd.R_far (p := ⟨gb673, 0, none⟩) (Kd.R_types HO671.out BK673.out (by decide)) (fun _ hk => hk.2) (.int .i64 t665)) (fun _ hk => hk.2) (.int .i64 t666)) (fun _ hk => hk.2) (.int .i64 t667)) (fun _ hk => hk.2) (.int .u8 t668)) (fun _ h_ => h_.1))) hb); have n1_ := Aside0.mk (Kd.V_lower (Kd.V_mono (ok' := fun k_ => some k_ ≠ (v670 : Value).ownBlock ∧ k_ ≠ gb660 ∧ k_ ≠ gb673) ho0 (fun k_ hk_ => ⟨(Kd.fresh' (Kd.R_lt (by (with_reducible repeat (first | apply Kd.R_alloc | apply Kd.R_drewN | apply Kd.R_drew)); exact (Kd.R_mono (Kd.R_far (p := ⟨gb673, 3, none⟩) (Kd.R_far (p := ⟨gb673, 2, none⟩) (Kd.R_far (p := ⟨gb673, 1, none⟩) (Kd.R_far (p := ⟨gb673, 0, none⟩) (Kd.R_types HO671.out BK673.out (by decide)) (fun _ hk => hk.2) (.int .i64 t665)) (fun _ hk => hk.2) (.int .i64 t666)) (fun _ hk => hk.2) (.int .i64 t667)) (fun _ hk => hk.2) (.int .u8 t668)) (fun _ h_ => h_.1)))) k_ hk_), (Kd.freshB (g := gb660) (o := .cells #[.int .i64 a0_0, .int .i64 a0_1, .int .i64 a0_2, .int .u8 a0_3] 23 (0, 0)) (by (with_reducible repeat (first | refine qN ?_ _ | refine qD ?_ | refine qA ?_ _)); refine blk_far ?_ NB660_673.out _; (with_reducible repeat (first | refine qN ?_ _ | refine qD ?_ | refine qA ?_ _)); refine blk_far ?_ NB660_673.out _; (with_reducible repeat (first | refine qN ?_ _ | refine qD ?_ | refine qA ?_ _)); refine blk_far ?_ NB660_673.out _; (with_reducible repeat (first | refine qN ?_ _ | refine qD ?_ | refine qA ?_ _)); refine blk_far ?_ NB660_673.out _; (with_reducible repeat (first | refine qN ?_ _ | refine qD ?_ | refine qA ?_ _)); exact BK660.out) k_ hk_), (Kd.freshB (g := gb673) (o := .cells #[.int .i64 t665, .int .i64 t666, .int .i64 t667, .int .u8 t668] 23 (0, 0)) (by (with_reducible repeat (first | refine qN ?_ _ | refine qD ?_ | refine qA ?_ _)); refine blk_put (cs := #[.int .i64 t665, .int .i64 t666, .int .i64 t667, .int .u8 0]) ?_ 3 _ rfl; (with_reducible repeat (first | refine qN ?_ _ | refine qD ?_ | refine qA ?_ _)); refine blk_put (cs := #[.int .i64 t665, .int .i64 t666, .int .i64 0, .int .u8 0]) ?_ 2 _ rfl; (with_reducible repeat (first | refine qN ?_ _ | refine qD ?_ | refine qA ?_ _)); refine blk_put (cs := #[.int .i64 t665, .int .i64 0, .int .i64 0, .int .u8 0]) ?_ 1 _ rfl; (with_reducible repeat (first | refine qN ?_ _ | refine qD ?_ | refine qA ?_ _)); refine blk_put (cs := #[.int .i64 0, .int .i64 0, .int .i64 0, .int .u8 0]) ?_ 0 _ rfl; (with_reducible repeat (first | refine qN ?_ _ | refine qD ?_ | refine qA ?_ _)); exact BK673.out) k_ hk_)⟩)) (below_size (by repeat (first | (with_reducible first | exact HB.out | apply pA | apply pN | apply pD | refine pS ?_ GE660.out | refine pS ?_ GE673.out) | exact HB.out)))); have n2_ := Aside0.mk (blk_below (g := gb660) (o := .cells #[.int .i64 a0_0, .int .i64 a0_1, .int .i64 a0_2, .int .u8 a0_3] 23 (0, 0)) (by (with_reducible repeat (first | refine qN ?_ _ | refine qD ?_ | refine qA ?_ _)); refine blk_far ?_ NB660_673.out _; (with_reducible repeat (first | refine qN ?_ _ | refine qD ?_ | refine qA ?_ _)); refine blk_far ?_ NB660_673.out _; (with_reducible repeat (first | refine qN ?_ _ | refine qD ?_ | refine qA ?_ _)); refine blk_far ?_ NB660_673.out _; (with_reducible repeat (first | refine qN ?_ _ | refine qD ?_ | refine qA ?_ _)); refine blk_far ?_ NB660_673.out _; (with_reducible repeat (first | refine qN ?_ _ | refine qD ?_ | refine qA ?_ _)); exact BK660.out) hb); have n3_ := Aside0.mk (blk_below (g := gb673) (o := .cells #[.int .i64 t665, .int .i64 t666, .int .i64 t667, .int .u8 t668] 23 (0, 0)) (by (with_reducible repeat (first | refine qN ?_ _ | refine qD ?_ | refine qA ?_ _)); refine blk_put (cs := #[.int .i64 t665, .int .i64 t666, .int .i64 t667, .int .u8 0]) ?_ 3 _ rfl; (with_reducible repeat (first | refine qN ?_ _ | refine qD ?_ | refine qA ?_ _)); refine blk_put (cs := #[.int .i64 t665, .int .i64 t666, .int .i64 0, .int .u8 0]) ?_ 2 _ rfl; (with_reducible repeat (first | refine qN ?_ _ | refine qD ?_ | refine qA ?_ _)); refine blk_put (cs := #[.int .i64 t665, .int .i64 0, .int .i64 0, .int .u8 0]) ?_ 1 _ rfl; (with_reducible repeat (first | refine qN ?_ _ | refine qD ?_ | refine qA ?_ _)); refine blk_put (cs := #[.int .i64 0, .int .i64 0, .int .i64 0, .int .u8 0]) ?_ 0 _ rfl; (with_reducible repeat (first | refine qN ?_ _ | refine qD ?_ | refine qA ?_ _)); exact BK673.out) hb); have n4_ := Aside0.mk (below_step (by repeat (first | (with_reducible first | exact HB.out | apply pA | apply pN | apply pD | refine pS ?_ GE660.out | refine pS ?_ GE673.out) | exact HB.out)) hb); clear HO671; clear BK660; clear BK673; clear HB; have HO671 := n0_; have HO680 := n1_; have BK660 := n2_; have BK673 := n3_; have HB := n4_; clear n0_ n1_ n2_ n3_ n4_; (try clear hb); (try clear hb2); (try clear hk); (try clear hi); (try clear ho0)) | ((with_reducible refine gate_dst (N := 12) rfl ?_); refine box_event ?hg (N := 12) ?hd (cs := #[.int .i64 0, .int .i64 0, .int .i64 0, .int .u8 0]) (t := 23) ?hr ?_; (case hd => rfl); (case hg => rfl); (case hr => first | (go_simp; done) | (go_simp; rfl)); intro gb682 hg w44 hbox hb; have n0_ := Aside0.mk (Kd.R_below (by (with_reducible repeat (first | apply Kd.R_alloc | apply Kd.R_drewN | apply Kd.R_drew)); exact HO671.out) hb); have n1_ := Aside0.mk (Kd.V_below (Kd.V_elderB (by (with_reducible repeat (first | apply Kd.V_alloc | apply Kd.V_drewN | apply Kd.V_drew)); exact HO680.out) gb682 (Nat.le_of_eq hg.symm)) hb); have n2_ := Aside0.mk (blk_below (g := gb660) (o := .cells #[.int .i64 a0_0, .int .i64 a0_1, .int .i64 a0_2, .int .u8 a0_3] 23 (0, 0)) (by (with_reducible repeat (first | refine qN ?_ _ | refine qD ?_ | refine qA ?_ _)); exact BK660.out) hb); have n3_ := Aside0.mk (blk_below (g := gb673) (o := .cells #[.int .i64 t665, .int .i64 t666, .int .i64 t667, .int .u8 t668] 23 (0, 0)) (by (with_reducible repeat (first | refine qN ?_ _ | refine qD ?_ | refine qA ?_ _)); exact BK673.out) hb); have n4_ := Aside0.mk (below_step (by repeat (first | (with_reducible first | exact HB.out | apply pA | apply pN | apply pD | refine pS ?_ GE660.out | refine pS ?_ GE673.out) | exact HB.out)) hb); have n5_ := Aside0.mk (hbox); have n6_ := Aside0.mk ((by rw [hg]; exact (below_size (by repeat (first | (with_reducible first | exact HB.out | apply pA | apply pN | apply pD | refine pS ?_ GE660.out | refine pS ?_ GE673.out) | exact HB.out))) : w.heap.size ≤ gb682)); have n7_ := Aside0.mk ((by rw [hg]; exact (below_size (by repeat (first | (with_reducible first | exact HB.out | apply pA | apply pN | apply pD | refine pS ?_ GE660.out | refine pS ?_ GE673.out) | exact HB.out))) : w.heap.size ≤ gb682)); have n8_ := Aside0.mk ((by rw [hg]; exact Nat.ne_of_lt (blk_lt (g := gb660) (o := .cells #[.int .i64 a0_0, .int .i64 a0_1, .int .i64 a0_2, .int .u8 a0_3] 23 (0, 0)) (by (with_reducible repeat (first | refine qN ?_ _ | refine qD ?_ | refine qA ?_ _)); exact BK660.out)) : gb660 ≠ gb682)); have n9_ := Aside0.mk ((by rw [hg]; exact Nat.ne_of_gt (blk_lt (g := gb660) (o := .cells #[.int .i64 a0_0, .int .i64 a0_1, .int .i64 a0_2, .int .u8 a0_3] 23 (0, 0)) (by (with_reducible repeat (first | refine qN ?_ _ | refine qD ?_ | refine qA ?_ _)); exact BK660.out)) : gb682 ≠ gb660)); have n10_ := Aside0.mk ((by rw [hg]; exact Nat.ne_of_lt (blk_lt (g := gb673) (o := .cells #[.int .i64 t665, .int .i64 t666, .int .i64 t667, .int .u8 t668] 23 (0, 0)) (by (with_reducible repeat (first | refine qN ?_ _ | refine qD ?_ | refine qA ?_ _)); exact BK673.out)) : gb673 ≠ gb682)); have n11_ := Aside0.mk ((by rw [hg]; exact Nat.ne_of_gt (blk_lt (g := gb673) (o := .cells #[.int .i64 t665, .int .i64 t666, .int .i64 t667, .int .u8 t668] 23 (0, 0)) (by (with_reducible repeat (first | refine qN ?_ _ | refine qD ?_ | refine qA ?_ _)); exact BK673.out)) : gb682 ≠ gb673)); clear HO671; clear HO680; clear BK660; clear BK673; clear HB; have HO671 := n0_; have HO680 := n1_; have BK660 := n2_; have BK673 := n3_; have HB := n4_; have BK682 := n5_; have GW682 := n6_; have GE682 := n7_; have NB660_682 := n8_; have NB682_660 := n9_; have NB673_682 := n10_; have NB682_673 := n11_; clear n0_ n1_ n2_ n3_ n4_ n5_ n6_ n7_ n8_ n9_ n10_ n11_; clear hb hbox hg; have hnb45 := NB682_660.out; have hnc45 := NB660_682.out; have hnb46 := NB682_673.out; have hnc46 := NB673_682.out; have hcz47_0 : w44.cell? ⟨gb682, 0, none⟩ = some (.int .i64 0) := (blk_cell BK682.out 0).trans rfl; have hcz47_1 : w44.cell? ⟨gb682, 1, none⟩ = some (.int .i64 0) := (blk_cell BK682.out 1).trans rfl; have hcz47_2 : w44.cell? ⟨gb682, 2, none⟩ = some (.int .i64 0) := (blk_cell BK682.out 2).trans rfl; have hcz47_3 : w44.cell? ⟨gb682, 3, none⟩ = some (.int .u8 0) := (blk_cell BK682.out 3).trans rfl; have hfz47_0 := blk_frozen BK682.out 0; have hfz47_1 := blk_frozen BK682.out 1; have hfz47_2 := blk_frozen BK682.out 2; have hfz47_3 := blk_frozen BK682.out 3; have hcz48_0 : w44.cell? ⟨gb660, 0, none⟩ = some (.int .i64 a0_0) := (blk_cell BK660.out 0).trans rfl; have hcz48_1 : w44.cell? ⟨gb660, 1, none⟩ = some (.int .i64 a0_1) := (blk_cell BK660.out 1).trans rfl; have hcz48_2 : w44.cell? ⟨gb660, 2, none⟩ = some (.int .i64 a0_2) := (blk_cell BK660.out 2).trans rfl; have hcz48_3 : w44.cell? ⟨gb660, 3, none⟩ = some (.int .u8 a0_3) := (blk_cell BK660.out 3).trans rfl; have hfz48_0 := blk_frozen BK660.out 0; have hfz48_1 := blk_frozen BK660.out 1; have hfz48_2 := blk_frozen BK660.out 2; have hfz48_3 := blk_frozen BK660.out 3) | ((with_reducible refine gate_callee (f := 15) rfl ?_); refine goesL_ (some 56) rfl rfl Tryd.func15 (by kernel_rfl) rfl #[.agg #[.int .i64 a0_0, .int .i64 a0_1, .int .i64 a0_2, .int .u8 a0_3]] rfl (by (try simp only [List.map_toArray, List.map_cons, List.map_nil]); first | done | rfl | (simp only [List.length_drop, List.length_take]; rfl)) ?_; (with_reducible refine (auto_Tick.calls a0_0 a0_1 a0_2 a0_3 t683 t684 t685 t686 t687 _ ?side1 A25.out).mono ?_); (case side1 => exact (HGL.out.below (by repeat (first | (with_reducible first | exact HB.out | apply pA | apply pN | apply pD | refine pS ?_ GE660.out | refine pS ?_ GE673.out | refine pS ?_ GE682.out) | exact HB.out)))); rintro e w49 ⟨v688, rfl, ho0, hb⟩; refine ⟨_, rfl, ?_⟩; have n0_ := Aside0.mk (Kd.R_elder' (by (with_reducible repeat (first | apply Kd.R_alloc | apply Kd.R_drewN | apply Kd.R_drew)); exact (Kd.R_mono (Kd.R_far (p := ⟨gb682, 3, none⟩) (Kd.R_far (p := ⟨gb682, 2, none⟩) (Kd.R_far (p := ⟨gb682, 1, none⟩) (Kd.R_far (p := ⟨gb682, 0, none⟩) (Kd.R_types HO671.out BK682.out (by decide)) (fun _ hk => hk.2) (.int .i64 t674)) (fun _ hk => hk.2) (.int .i64 t675)) (fun _ hk => hk.2) (.int .i64 t676)) (fun _ hk => hk.2) (.int .u8 t677)) (fun _ h_ => h_.1))) (Kd.R_base ho0) hb); have n1_ := Aside0.mk (Kd.V_elder' (by (with_reducible repeat (first | apply Kd.V_alloc | apply Kd.V_drewN | apply Kd.V_drew)); exact (Kd.V_mono (Kd.V_far (p := ⟨gb682, 3, none⟩) (Kd.V_far (p := ⟨gb682, 2, none⟩) (Kd.V_far (p := ⟨gb682, 1, none⟩) (Kd.V_far (p := ⟨gb682, 0, none⟩) (Kd.V_mono HO680.out (fun k_ hk => (⟨hk, hk.2⟩ : _ ∧ k_ ≠ gb682))) (fun _ hk => hk.2) (.int .i64 t674)) (fun _ hk => hk.2) (.int .i64 t675)) (fun _ hk => hk.2) (.int .i64 t676)) (fun _ hk => hk.2) (.int .u8 t677)) (fun _ h_ => h_.1))) (Kd.R_base ho0) hb); have n2_ := Aside0.mk (Kd.R_lower (Kd.R_new' ho0 (Kd.R_lt (by (with_reducible repeat (first | apply Kd.R_alloc | apply Kd.R_drewN | apply Kd.R_drew)); exact (Kd.R_mono (Kd.R_far (p := ⟨gb682, 3, none⟩) (Kd.R_far (p := ⟨gb682, 2, none⟩) (Kd.R_far (p := ⟨gb682, 1, none⟩) (Kd.R_far (p := ⟨gb682, 0, none⟩) (Kd.R_types HO671.out BK682.out (by decide)) (fun _ hk => hk.2) (.int .i64 t674)) (fun _ hk => hk.2) (.int .i64 t675)) (fun _ hk => hk.2) (.int .i64 t676)) (fun _ hk => hk.2) (.int .u8 t677)) (fun _ h_ => h_.1))))) (below_size (by repeat (first | (with_reducible first | exact HB.out | apply pA | apply pN | apply pD | refine pS ?_ GE660.out | refine pS ?_ GE673.out | refine pS ?_ GE682.out) | exact HB.out)))); have n3_ := Aside0.mk (blk_below (g := gb660) (o := .cells #[.int .i64 a0_0, .int .i64 a0_1, .int .i64 a0_2, .int .u8 a0_3] 23 (0, 0)) (by (with_reducible repeat (first | refine qN ?_ _ | refine qD ?_ | refine qA ?_ _)); refine blk_far ?_ NB660_682.out _; (with_reducible repeat (first | refine qN ?_ _ | refine qD ?_ | refine qA ?_ _)); refine blk_far ?_ NB660_682.out _; (with_reducible repeat (first | refine qN ?_ _ | refine qD ?_ | refine qA ?_ _)); refine blk_far ?_ NB660_682.out _; (with_reducible repeat (first | refine qN ?_ _ | refine qD ?_ | refine qA ?_ _)); refine blk_far ?_ NB660_682.out _; (with_reducible repeat (first | refine qN ?_ _ | refine qD ?_ | refine qA ?_ _)); exact BK660.out) hb); have n4_ := Aside0.mk (blk_below (g := gb673) (o := .cells #[.int .i64 t665, .int .i64 t666, .int .i64 t667, .int .u8 t668] 23 (0, 0)) (by (with_reducible repeat (first | refine qN ?_ _ | refine qD ?_ | refine qA ?_ _)); refine blk_far ?_ NB673_682.out _; (with_reducible repeat (first | refine qN ?_ _ | refine qD ?_ | refine qA ?_ _)); refine blk_far ?_ NB673_682.out _; (with_reducible repeat (first | refine qN ?_ _ | refine qD ?_ | refine qA ?_ _)); refine blk_far ?_ NB673_682.out _; (with_reducible repeat (first | refine qN ?_ _ | refine qD ?_ | refine qA ?_ _)); refine blk_far ?_ NB673_682.out _; (with_reducible repeat (first | refine qN ?_ _ | refine qD ?_ | refine qA ?_ _)); exact BK673.out) hb); have n5_ := Aside0.mk (blk_below (g := gb682) (o := .cells #[.int .i64 t674, .int .i64 t675, .int .i64 t676, .int .u8 t677] 23 (0, 0)) (by (with_reducible repeat (first | refine qN ?_ _ | refine qD ?_ | refine qA ?_ _)); refine blk_put (cs := #[.int .i64 t674, .int .i64 t675, .int .i64 t676, .int .u8 0]) ?_ 3 _ rfl; (with_reducible repeat (first | refine qN ?_ _ | refine qD ?_ | refine qA ?_ _)); refine blk_put (cs := #[.int .i64 t674, .int .i64 t675, .int .i64 0, .int .u8 0]) ?_ 2 _ rfl; (with_reducible repeat (first | refine qN ?_ _ | refine qD ?_ | refine qA ?_ _)); refine blk_put (cs := #[.int .i64 t674, .int .i64 0, .int .i64 0, .int .u8 0]) ?_ 1 _ rfl; (with_reducible repeat (first | refine qN ?_ _ | refine qD ?_ | refine qA ?_ _)); refine blk_put (cs := #[.int .i64 0, .int .i64 0, .int .i64 0, .int .u8 0]) ?_ 0 _ rfl; (with_reducible repeat (first | refine qN ?_ _ | refine qD ?_ | refine qA ?_ _)); exact BK682.out) hb); have n6_ := Aside0.mk (below_step (by repeat (first | (with_reducible first | exact HB.out | apply pA | apply pN | apply pD | refine pS ?_ GE660.out | refine pS ?_ GE673.out | refine pS ?_ GE682.out) | exact HB.out)) hb); clear HO671; clear HO680; clear BK660; clear BK673; clear BK682; clear HB; have HO671 := n0_; have HO680 := n1_; have HO689 := n2_; have BK660 := n3_; have BK673 := n4_; have BK682 := n5_; have HB := n6_; clear n0_ n1_ n2_ n3_ n4_ n5_ n6_; (try clear hb); (try clear hb2); (try clear hk); (try clear hi); (try clear ho0)) | ((with_reducible refine gate_dst (N := 15) rfl ?_); refine box_event ?hg (N := 15) ?hd (cs := #[.int .i64 0, .int .i64 0, .int .i64 0, .int .u8 0]) (t := 23) ?hr ?_; (case hd => rfl); (case hg => rfl); (case hr => first | (go_simp; done) | (go_simp; rfl)); intro gb690 hg w50 hbox hb; have n0_ := Aside0.mk (Kd.R_below (by (with_reducible repeat (first | apply Kd.R_alloc | apply Kd.R_drewN | apply Kd.R_drew)); exact HO671.out) hb); have n1_ := Aside0.mk (Kd.V_below (Kd.V_elderB (by (with_reducible repeat (first | apply Kd.V_alloc | apply Kd.V_drewN | apply Kd.V_drew)); exact HO680.out) gb690 (Nat.le_of_eq hg.symm)) hb); have n2_ := Aside0.mk (Kd.R_below (by (with_reducible repeat (first | apply Kd.R_alloc | apply Kd.R_drewN | apply Kd.R_drew)); exact HO689.out) hb); have n3_ := Aside0.mk (blk_below (g := gb660) (o := .cells #[.int .i64 a0_0, .int .i64 a0_1, .int .i64 a0_2, .int .u8 a0_3] 23 (0, 0)) (by (with_reducible repeat (first | refine qN ?_ _ | refine qD ?_ | refine qA ?_ _)); exact BK660.out) hb); have n4_ := Aside0.mk (blk_below (g := gb673) (o := .cells #[.int .i64 t665, .int .i64 t666, .int .i64 t667, .int .u8 t668] 23 (0, 0)) (by (with_reducible repeat (first | refine qN ?_ _ | refine qD ?_ | refine qA ?_ _)); exact BK673.out) hb); have n5_ := Aside0.mk (blk_below (g := gb682) (o := .cells #[.int .i64 t674, .int .i64 t675, .int .i64 t676, .int .u8 t677] 23 (0, 0)) (by (with_reducible repeat (first | refine qN ?_ _ | refine qD ?_ | refine qA ?_ _)); exact BK682.out) hb); have n6_ := Aside0.mk (below_step (by repeat (first | (with_reducible first | exact HB.out | apply pA | apply pN | apply pD | refine pS ?_ GE660.out | refine pS ?_ GE673.out | refine pS ?_ GE682.out) | exact HB.out)) hb); have n7_ := Aside0.mk (hbox); have n8_ := Aside0.mk ((by rw [hg]; exact (below_size (by repeat (first | (with_reducible first | exact HB.out | apply pA | apply pN | apply pD | refine pS ?_ GE660.out | refine pS ?_ GE673.out | refine pS ?_ GE682.out) | exact HB.out))) : w.heap.size ≤ gb690)); have n9_ := Aside0.mk ((by rw [hg]; exact (below_size (by repeat (first | (with_reducible first | exact HB.out | apply pA | apply pN | apply pD | refine pS ?_ GE660.out | refine pS ?_ GE673.out | refine pS ?_ GE682.out) | exact HB.out))) : w.heap.size ≤ gb690)); have n10_ := Aside0.mk ((by rw [hg]; exact Nat.ne_of_lt (blk_lt (g := gb660) (o := .cells #[.int .i64 a0_0, .int .i64 a0_1, .int .i64 a0_2, .int .u8 a0_3] 23 (0, 0)) (by (with_reducible repeat (first | refine qN ?_ _ | refine qD ?_ | refine qA ?_ _)); exact BK660.out)) : gb660 ≠ gb690)); have n11_ := Aside0.mk ((by rw [hg]; exact Nat.ne_of_gt (blk_lt (g := gb660) (o := .cells #[.int .i64 a0_0, .int .i64 a0_1, .int .i64 a0_2, .int .u8 a0_3] 23 (0, 0)) (by (with_reducible repeat (first | refine qN ?_ _ | refine qD ?_ | refine qA ?_ _)); exact BK660.out)) : gb690 ≠ gb660)); have n12_ := Aside0.mk ((by rw [hg]; exact Nat.ne_of_lt (blk_lt (g := gb673) (o := .cells #[.int .i64 t665, .int .i64 t666, .int .i64 t667, .int .u8 t668] 23 (0, 0)) (by (with_reducible repeat (first | refine qN ?_ _ | refine qD ?_ | refine qA ?_ _)); exact BK673.out)) : gb673 ≠ gb690)); have n13_ := Aside0.mk ((by rw [hg]; exact Nat.ne_of_gt (blk_lt (g := gb673) (o := .cells #[.int .i64 t665, .int .i64 t666, .int .i64 t667, .int .u8 t668] 23 (0, 0)) (by (with_reducible repeat (first | refine qN ?_ _ | refine qD ?_ | refine qA ?_ _)); exact BK673.out)) : gb690 ≠ gb673)); have n14_ := Aside0.mk ((by rw [hg]; exact Nat.ne_of_lt (blk_lt (g := gb682) (o := .cells #[.int .i64 t674, .int .i64 t675, .int .i64 t676, .int .u8 t677] 23 (0, 0)) (by (with_reducible repeat (first | refine qN ?_ _ | refine qD ?_ | refine qA ?_ _)); exact BK682.out)) : gb682 ≠ gb690)); have n15_ := Aside0.mk ((by rw [hg]; exact Nat.ne_of_gt (blk_lt (g := gb682) (o := .cells #[.int .i64 t674, .int .i64 t675, .int .i64 t676, .int .u8 t677] 23 (0, 0)) (by (with_reducible repeat (first | refine qN ?_ _ | refine qD ?_ | refine qA ?_ _)); exact BK682.out)) : gb690 ≠ gb682)); clear HO671; clear HO680; clear HO689; clear BK660; clear BK673; clear BK682; clear HB; have HO671 := n0_; have HO680 := n1_; have HO689 := n2_; have BK660 := n3_; have BK673 := n4_; have BK682 := n5_; have HB := n6_; have BK690 := n7_; have GW690 := n8_; have GE690 := n9_; have NB660_690 := n10_; have NB690_660 := n11_; have NB673_690 := n12_; have NB690_673 := n13_; have NB682_690 := n14_; have NB690_682 := n15_; clear n0_ n1_ n2_ n3_ n4_ n5_ n6_ n7_ n8_ n9_ n10_ n11_ n12_ n13_ n14_ n15_; clear hb hbox hg; have hnb51 := NB690_660.out; have hnc51 := NB660_690.out; have hnb52 := NB690_673.out; have hnc52 := NB673_690.out; have hnb53 := NB690_682.out; have hnc53 := NB682_690.out; have hcz54_0 : w50.cell? ⟨gb690, 0, none⟩ = some (.int .i64 0) := (blk_cell BK690.out 0).trans rfl; have hcz54_1 : w50.cell? ⟨gb690, 1, none⟩ = some (.int .i64 0) := (blk_cell BK690.out 1).trans rfl; have hcz54_2 : w50.cell? ⟨gb690, 2, none⟩ = some (.int .i64 0) := (blk_cell BK690.out 2).trans rfl; have hcz54_3 : w50.cell? ⟨gb690, 3, none⟩ = some (.int .u8 0) := (blk_cell BK690.out 3).trans rfl; have hfz54_0 := blk_frozen BK690.out 0; have hfz54_1 := blk_frozen BK690.out 1; have hfz54_2 := blk_frozen BK690.out 2; have hfz54_3 := blk_frozen BK690.out 3; have hcz55_0 : w50.cell? ⟨gb660, 0, none⟩ = some (.int .i64 a0_0) := (blk_cell BK660.out 0).trans rfl; have hcz55_1 : w50.cell? ⟨gb660, 1, none⟩ = some (.int .i64 a0_1) := (blk_cell BK660.out 1).trans rfl; have hcz55_2 : w50.cell? ⟨gb660, 2, none⟩ = some (.int .i64 a0_2) := (blk_cell BK660.out 2).trans rfl; have hcz55_3 : w50.cell? ⟨gb660, 3, none⟩ = some (.int .u8 a0_3) := (blk_cell BK660.out 3).trans rfl; have hfz55_0 := blk_frozen BK660.out 0; have hfz55_1 := blk_frozen BK660.out 1; have hfz55_2 := blk_frozen BK660.out 2; have hfz55_3 := blk_frozen BK660.out 3) | ((with_reducible refine gate_callee (f := 16) rfl ?_); refine goesL_ (some 61) rfl rfl Tryd.func16 (by kernel_rfl) rfl #[.agg #[.int .i64 a0_0, .int .i64 a0_1, .int .i64 a0_2, .int .u8 a0_3]] rfl (by (try simp only [List.map_toArray, List.map_cons, List.map_nil]); first | done | rfl | (simp only [List.length_drop, List.length_take]; rfl)) ?_; (with_reducible refine (portreeveref12_Tick.calls kj10 a0_0 a0_1 a0_2 a0_3 t691 t692 t693 t694 t695 _ A26.out).mono ?_); rintro e w56 ⟨v696, rfl, ho0, hb⟩; refine ⟨_, rfl, ?_⟩; have n0_ := Aside0.mk (Kd.R_below (by (with_reducible repeat (first | apply Kd.R_alloc | apply Kd.R_drewN | apply Kd.R_drew)); exact (Kd.R_mono (Kd.R_far (p := ⟨gb690, 3, none⟩) (Kd.R_far (p := ⟨gb690, 2, none⟩) (Kd.R_far (p := ⟨gb690, 1, none⟩) (Kd.R_far (p := ⟨gb690, 0, none⟩) (Kd.R_types HO671.out BK690.out (by decide)) (fun _ hk => hk.2) (.int .i64 t683)) (fun _ hk => hk.2) (.int .i64 t684)) (fun _ hk => hk.2) (.int .i64 t685)) (fun _ hk => hk.2) (.int .u8 t686)) (fun _ h_ => h_.1))) hb); have n1_ := Aside0.mk (Kd.V_below (by (with_reducible repeat (first | apply Kd.V_alloc | apply Kd.V_drewN | apply Kd.V_drew)); exact (Kd.V_mono (Kd.V_far (p := ⟨gb690, 3, none⟩) (Kd.V_far (p := ⟨gb690, 2, none⟩) (Kd.V_far (p := ⟨gb690, 1, none⟩) (Kd.V_far (p := ⟨gb690, 0, none⟩) (Kd.V_mono HO680.out (fun k_ hk => (⟨hk, hk.2⟩ : _ ∧ k_ ≠ gb690))) (fun _ hk => hk.2) (.int .i64 t683)) (fun _ hk => hk.2) (.int .i64 t684)) (fun _ hk => hk.2) (.int .i64 t685)) (fun _ hk => hk.2) (.int .u8 t686)) (fun _ h_ => h_.1))) hb); have n2_ := Aside0.mk (Kd.R_below (by (with_reducible repeat (first | apply Kd.R_alloc | apply Kd.R_drewN | apply Kd.R_drew)); exact (Kd.R_mono (Kd.R_far (p := ⟨gb690, 3, none⟩) (Kd.R_far (p := ⟨gb690, 2, none⟩) (Kd.R_far (p := ⟨gb690, 1, none⟩) (Kd.R_far (p := ⟨gb690, 0, none⟩) (Kd.R_types HO689.out BK690.out (by decide)) (fun _ hk => hk.2) (.int .i64 t683)) (fun _ hk => hk.2) (.int .i64 t684)) (fun _ hk => hk.2) (.int .i64 t685)) (fun _ hk => hk.2) (.int .u8 t686)) (fun _ h_ => h_.1))) hb); have n3_ := Aside0.mk (Kd.V_lower (Kd.V_mono (ok' := fun k_ => some k_ ≠ (v670 : Value).ownBlock ∧ some k_ ≠ (v688 : Value).ownBlock ∧ k_ ≠ gb660 ∧ k_ ≠ gb673 ∧ k_ ≠ gb682 ∧ k_ ≠ gb690) ho0 (fun k_ hk_ => ⟨(Kd.fresh' (Kd.R_lt (by (with_reducible repeat (first | apply Kd.R_alloc | apply Kd.R_drewN | apply Kd.R_drew)); exact (Kd.R_mono (Kd.R_far (p := ⟨gb690, 3, none⟩) (Kd.R_far (p := ⟨gb690, 2, none⟩) (Kd.R_far (p := ⟨gb690, 1, none⟩) (Kd.R_far (p := ⟨gb690, 0, none⟩) (Kd.R_types HO671.out BK690.out (by decide)) (fun _ hk => hk.2) (.int .i64 t683)) (fun _ hk => hk.2) (.int .i64 t684)) (fun _ hk => hk.2) (.int .i64 t685)) (fun _ hk => hk.2) (.int .u8 t686)) (fun _ h_ => h_.1)))) k_ hk_), (Kd.fresh' (Kd.R_lt (by (with_reducible repeat (first | apply Kd.R_alloc | apply Kd.R_drewN | apply Kd.R_drew)); exact (Kd.R_mono (Kd.R_far (p := ⟨gb690, 3, none⟩) (Kd.R_far (p := ⟨gb690, 2, none⟩) (Kd.R_far (p := ⟨gb690, 1, none⟩) (Kd.R_far (p := ⟨gb690, 0, none⟩) (Kd.R_types HO689.out BK690.out (by decide)) (fun _ hk => hk.2) (.int .i64 t683)) (fun _ hk => hk.2) (.int .i64 t684)) (fun _ hk => hk.2) (.int .i64 t685)) (fun _ hk => hk.2) (.int .u8 t686)) (fun _ h_ => h_.1)))) k_ hk_), (Kd.freshB (g := gb660) (o := .cells #[.int .i64 a0_0, .int .i64 a0_1, .int .i64 a0_2, .int .u8 a0_3] 23 (0, 0)) (by (with_reducible repeat (first | refine qN ?_ _ | refine qD ?_ | refine qA ?_ _)); refine blk_far ?_ NB660_690.out _; (with_reducible repeat (first | refine qN ?_ _ | refine qD ?_ | refine qA ?_ _)); refine blk_far ?_ NB660_690.out _; (with_reducible repeat (first | refine qN ?_ _ | refine qD ?_ | refine qA ?_ _)); refine blk_far ?_ NB660_690.out _; (with_reducible repeat (first | refine qN ?_ _ | refine qD ?_ | refine qA ?_ _)); refine blk_far ?_ NB660_690.out _; (with_reducible repeat (first | refine qN ?_ _ | refine qD ?_ | refine qA ?_ _)); exact BK660.out) k_ hk_), (Kd.freshB (g := gb673) (o := .cells #[.int .i64 t665, .int .i64 t666, .int .i64 t667, .int .u8 t668] 23 (0, 0)) (by (with_reducible repeat (first | refine qN ?_ _ | refine qD ?_ | refine qA ?_ _)); refine blk_far ?_ NB673_690.out _; (with_reducible repeat (first | refine qN ?_ _ | refine qD ?_ | refine qA ?_ _)); refine blk_far ?_ NB673_690.out _; (with_reducible repeat (first | refine qN ?_ _ | refine qD ?_ | refine qA ?_ _)); refine blk_far ?_ NB673_690.out _; (with_reducible repeat (first | refine qN ?_ _ | refine qD ?_ | refine qA ?_ _)); refine blk_far ?_ NB673_690.out _; (with_reducible repeat (first | refine qN ?_ _ | refine qD ?_ | refine qA ?_ _)); exact BK673.out) k_ hk_), (Kd.freshB (g := gb682) (o := .cells #[.int .i64 t674, .int .i64 t675, .int .i64 t676, .int .u8 t677] 23 (0, 0)) (by (with_reducible repeat (first | refine qN ?_ _ | refine qD ?_ | refine qA ?_ _)); refine blk_far ?_ NB682_690.out _; (with_reducible repeat (first | refine qN ?_ _ | refine qD ?_ | refine qA ?_ _)); refine blk_far ?_ NB682_690.out _; (with_reducible repeat (first | refine qN ?_ _ | refine qD ?_ | refine qA ?_ _)); refine blk_far ?_ NB682_690.out _; (with_reducible repeat (first | refine qN ?_ _ | refine qD ?_ | refine qA ?_ _)); refine blk_far ?_ NB682_690.out _; (with_reducible repeat (first | refine qN ?_ _ | refine qD ?_ | refine qA ?_ _)); exact BK682.out) k_ hk_), (Kd.freshB (g := gb690) (o := .cells #[.int .i64 t683, .int .i64 t684, .int .i64 t685, .int .u8 t686] 23 (0, 0)) (by (with_reducible repeat (first | refine qN ?_ _ | refine qD ?_ | refine qA ?_ _)); refine blk_put (cs := #[.int .i64 t683, .int .i64 t684, .int .i64 t685, .int .u8 0]) ?_ 3 _ rfl; (with_reducible repeat (first | refine qN ?_ _ | refine qD ?_ | refine qA ?_ _)); refine blk_put (cs := #[.int .i64 t683, .int .i64 t684, .int .i64 0, .int .u8 0]) ?_ 2 _ rfl; (with_reducible repeat (first | refine qN ?_ _ | refine qD ?_ | refine qA ?_ _)); refine blk_put (cs := #[.int .i64 t683, .int .i64 0, .int .i64 0, .int .u8 0]) ?_ 1 _ rfl; (with_reducible repeat (first | refine qN ?_ _ | refine qD ?_ | refine qA ?_ _)); refine blk_put (cs := #[.int .i64 0, .int .i64 0, .int .i64 0, .int .u8 0]) ?_ 0 _ rfl; (with_reducible repeat (first | refine qN ?_ _ | refine qD ?_ | refine qA ?_ _)); exact BK690.out) k_ hk_)⟩)) (below_size (by repeat (first | (with_reducible first | exact HB.out | apply pA | apply pN | apply pD | refine pS ?_ GE660.out | refine pS ?_ GE673.out | refine pS ?_ GE682.out | refine pS ?_ GE690.out) | exact HB.out)))); have n4_ := Aside0.mk (blk_below (g := gb660) (o := .cells #[.int .i64 a0_0, .int .i64 a0_1, .int .i64 a0_2, .int .u8 a0_3] 23 (0, 0)) (by (with_reducible repeat (first | refine qN ?_ _ | refine qD ?_ | refine qA ?_ _)); refine blk_far ?_ NB660_690.out _; (with_reducible repeat (first | refine qN ?_ _ | refine qD ?_ | refine qA ?_ _)); refine blk_far ?_ NB660_690.out _; (with_reducible repeat (first | refine qN ?_ _ | refine qD ?_ | refine qA ?_ _)); refine blk_far ?_ NB660_690.out _; (with_reducible repeat (first | refine qN ?_ _ | refine qD ?_ | refine qA ?_ _)); refine blk_far ?_ NB660_690.out _; (with_reducible repeat (first | refine qN ?_ _ | refine qD ?_ | refine qA ?_ _)); exact BK660.out) hb); have n5_ := Aside0.mk (blk_below (g := gb673) (o := .cells #[.int .i64 t665, .int .i64 t666, .int .i64 t667, .int .u8 t668] 23 (0, 0)) (by (with_reducible repeat (first | refine qN ?_ _ | refine qD ?_ | refine qA ?_ _)); refine blk_far ?_ NB673_690.out _; (with_reducible repeat (first | refine qN ?_ _ | refine qD ?_ | refine qA ?_ _)); refine blk_far ?_ NB673_690.out _; (with_reducible repeat (first | refine qN ?_ _ | refine qD ?_ | refine qA ?_ _)); refine blk_far ?_ NB673_690.out _; (with_reducible repeat (first | refine qN ?_ _ | refine qD ?_ | refine qA ?_ _)); refine blk_far ?_ NB673_690.out _; (with_reducible repeat (first | refine qN ?_ _ | refine qD ?_ | refine qA ?_ _)); exact BK673.out) hb); have n6_ := Aside0.mk (blk_below (g := gb682) (o := .cells #[.int .i64 t674, .int .i64 t675, .int .i64 t676, .int .u8 t677] 23 (0, 0)) (by (with_reducible repeat (first | refine qN ?_ _ | refine qD ?_ | refine qA ?_ _)); refine blk_far ?_ NB682_690.out _; (with_reducible repeat (first | refine qN ?_ _ | refine qD ?_ | refine qA ?_ _)); refine blk_far ?_ NB682_690.out _; (with_reducible repeat (first | refine qN ?_ _ | refine qD ?_ | refine qA ?_ _)); refine blk_far ?_ NB682_690.out _; (with_reducible repeat (first | refine qN ?_ _ | refine qD ?_ | refine qA ?_ _)); refine blk_far ?_ NB682_690.out _; (with_reducible repeat (first | refine qN ?_ _ | refine qD ?_ | refine qA ?_ _)); exact BK682.out) hb); have n7_ := Aside0.mk (blk_below (g := gb690) (o := .cells #[.int .i64 t683, .int .i64 t684, .int .i64 t685, .int .u8 t686] 23 (0, 0)) (by (with_reducible repeat (first | refine qN ?_ _ | refine qD ?_ | refine qA ?_ _)); refine blk_put (cs := #[.int .i64 t683, .int .i64 t684, .int .i64 t685, .int .u8 0]) ?_ 3 _ rfl; (with_reducible repeat (first | refine qN ?_ _ | refine qD ?_ | refine qA ?_ _)); refine blk_put (cs := #[.int .i64 t683, .int .i64 t684, .int .i64 0, .int .u8 0]) ?_ 2 _ rfl; (with_reducible repeat (first | refine qN ?_ _ | refine qD ?_ | refine qA ?_ _)); refine blk_put (cs := #[.int .i64 t683, .int .i64 0, .int .i64 0, .int .u8 0]) ?_ 1 _ rfl; (with_reducible repeat (first | refine qN ?_ _ | refine qD ?_ | refine qA ?_ _)); refine blk_put (cs := #[.int .i64 0, .int .i64 0, .int .i64 0, .int .u8 0]) ?_ 0 _ rfl; (with_reducible repeat (first | refine qN ?_ _ | refine qD ?_ | refine qA ?_ _)); exact BK690.out) hb); have n8_ := Aside0.mk (below_step (by repeat (first | (with_reducible first | exact HB.out | apply pA | apply pN | apply pD | refine pS ?_ GE660.out | refine pS ?_ GE673.out | refine pS ?_ GE682.out | refine pS ?_ GE690.out) | exact HB.out)) hb); clear HO671; clear HO680; clear HO689; clear BK660; clear BK673; clear BK682; clear BK690; clear HB; have HO671 := n0_; have HO680 := n1_; have HO689 := n2_; have HO697 := n3_; have BK660 := n4_; have BK673 := n5_; have BK682 := n6_; have BK690 := n7_; have HB := n8_; clear n0_ n1_ n2_ n3_ n4_ n5_ n6_ n7_ n8_; (try clear hb); (try clear hb2); (try clear hk); (try clear hi); (try clear ho0)) | ((with_reducible refine gate_dst (N := 17) rfl ?_); refine box_event ?hg (N := 17) ?hd (cs := #[.int .i64 0, .int .i64 0, .int .i64 0, .int .u8 0]) (t := 23) ?hr ?_; (case hd => rfl); (case hg => rfl); (case hr => first | (go_simp; done) | (go_simp; rfl)); intro gb698 hg w57 hbox hb; have n0_ := Aside0.mk (Kd.R_below (by (with_reducible repeat (first | apply Kd.R_alloc | apply Kd.R_drewN | apply Kd.R_drew)); exact HO671.out) hb); have n1_ := Aside0.mk (Kd.V_below (Kd.V_elderB (by (with_reducible repeat (first | apply Kd.V_alloc | apply Kd.V_drewN | apply Kd.V_drew)); exact HO680.out) gb698 (Nat.le_of_eq hg.symm)) hb); have n2_ := Aside0.mk (Kd.R_below (by (with_reducible repeat (first | apply Kd.R_alloc | apply Kd.R_drewN | apply Kd.R_drew)); exact HO689.out) hb); have n3_ := Aside0.mk (Kd.V_below (Kd.V_elderB (by (with_reducible repeat (first | apply Kd.V_alloc | apply Kd.V_drewN | apply Kd.V_drew)); exact HO697.out) gb698 (Nat.le_of_eq hg.symm)) hb); have n4_ := Aside0.mk (blk_below (g := gb660) (o := .cells #[.int .i64 a0_0, .int .i64 a0_1, .int .i64 a0_2, .int .u8 a0_3] 23 (0, 0)) (by (with_reducible repeat (first | refine qN ?_ _ | refine qD ?_ | refine qA ?_ _)); exact BK660.out) hb); have n5_ := Aside0.mk (blk_below (g := gb673) (o := .cells #[.int .i64 t665, .int .i64 t666, .int .i64 t667, .int .u8 t668] 23 (0, 0)) (by (with_reducible repeat (first | refine qN ?_ _ | refine qD ?_ | refine qA ?_ _)); exact BK673.out) hb); have n6_ := Aside0.mk (blk_below (g := gb682) (o := .cells #[.int .i64 t674, .int .i64 t675, .int .i64 t676, .int .u8 t677] 23 (0, 0)) (by (with_reducible repeat (first | refine qN ?_ _ | refine qD ?_ | refine qA ?_ _)); exact BK682.out) hb); have n7_ := Aside0.mk (blk_below (g := gb690) (o := .cells #[.int .i64 t683, .int .i64 t684, .int .i64 t685, .int .u8 t686] 23 (0, 0)) (by (with_reducible repeat (first | refine qN ?_ _ | refine qD ?_ | refine qA ?_ _)); exact BK690.out) hb); have n8_ := Aside0.mk (below_step (by repeat (first | (with_reducible first | exact HB.out | apply pA | apply pN | apply pD | refine pS ?_ GE660.out | refine pS ?_ GE673.out | refine pS ?_ GE682.out | refine pS ?_ GE690.out) | exact HB.out)) hb); have n9_ := Aside0.mk (hbox); have n10_ := Aside0.mk ((by rw [hg]; exact (below_size (by repeat (first | (with_reducible first | exact HB.out | apply pA | apply pN | apply pD | refine pS ?_ GE660.out | refine pS ?_ GE673.out | refine pS ?_ GE682.out | refine pS ?_ GE690.out) | exact HB.out))) : w.heap.size ≤ gb698)); have n11_ := Aside0.mk ((by rw [hg]; exact (below_size (by repeat (first | (with_reducible first | exact HB.out | apply pA | apply pN | apply pD | refine pS ?_ GE660.out | refine pS ?_ GE673.out | refine pS ?_ GE682.out | refine pS ?_ GE690.out) | exact HB.out))) : w.heap.size ≤ gb698)); have n12_ := Aside0.mk ((by rw [hg]; exact Nat.ne_of_lt (blk_lt (g := gb660) (o := .cells #[.int .i64 a0_0, .int .i64 a0_1, .int .i64 a0_2, .int .u8 a0_3] 23 (0, 0)) (by (with_reducible repeat (first | refine qN ?_ _ | refine qD ?_ | refine qA ?_ _)); exact BK660.out)) : gb660 ≠ gb698)); have n13_ := Aside0.mk ((by rw [hg]; exact Nat.ne_of_gt (blk_lt (g := gb660) (o := .cells #[.int .i64 a0_0, .int .i64 a0_1, .int .i64 a0_2, .int .u8 a0_3] 23 (0, 0)) (by (with_reducible repeat (first | refine qN ?_ _ | refine qD ?_ | refine qA ?_ _)); exact BK660.out)) : gb698 ≠ gb660)); have n14_ := Aside0.mk ((by rw [hg]; exact Nat.ne_of_lt (blk_lt (g := gb673) (o := .cells #[.int .i64 t665, .int .i64 t666, .int .i64 t667, .int .u8 t668] 23 (0, 0)) (by (with_reducible repeat (first | refine qN ?_ _ | refine qD ?_ | refine qA ?_ _)); exact BK673.out)) : gb673 ≠ gb698)); have n15_ := Aside0.mk ((by rw [hg]; exact Nat.ne_of_gt (blk_lt (g := gb673) (o := .cells #[.int .i64 t665, .int .i64 t666, .int .i64 t667, .int .u8 t668] 23 (0, 0)) (by (with_reducible repeat (first | refine qN ?_ _ | refine qD ?_ | refine qA ?_ _)); exact BK673.out)) : gb698 ≠ gb673)); have n16_ := Aside0.mk ((by rw [hg]; exact Nat.ne_of_lt (blk_lt (g := gb682) (o := .cells #[.int .i64 t674, .int .i64 t675, .int .i64 t676, .int .u8 t677] 23 (0, 0)) (by (with_reducible repeat (first | refine qN ?_ _ | refine qD ?_ | refine qA ?_ _)); exact BK682.out)) : gb682 ≠ gb698)); have n17_ := Aside0.mk ((by rw [hg]; exact Nat.ne_of_gt (blk_lt (g := gb682) (o := .cells #[.int .i64 t674, .int .i64 t675, .int .i64 t676, .int .u8 t677] 23 (0, 0)) (by (with_reducible repeat (first | refine qN ?_ _ | refine qD ?_ | refine qA ?_ _)); exact BK682.out)) : gb698 ≠ gb682)); have n18_ := Aside0.mk ((by rw [hg]; exact Nat.ne_of_lt (blk_lt (g := gb690) (o := .cells #[.int .i64 t683, .int .i64 t684, .int .i64 t685, .int .u8 t686] 23 (0, 0)) (by (with_reducible repeat (first | refine qN ?_ _ | refine qD ?_ | refine qA ?_ _)); exact BK690.out)) : gb690 ≠ gb698)); have n19_ := Aside0.mk ((by rw [hg]; exact Nat.ne_of_gt (blk_lt (g := gb690) (o := .cells #[.int .i64 t683, .int .i64 t684, .int .i64 t685, .int .u8 t686] 23 (0, 0)) (by (with_reducible repeat (first | refine qN ?_ _ | refine qD ?_ | refine qA ?_ _)); exact BK690.out)) : gb698 ≠ gb690)); clear HO671; clear HO680; clear HO689; clear HO697; clear BK660; clear BK673; clear BK682; clear BK690; clear HB; have HO671 := n0_; have HO680 := n1_; have HO689 := n2_; have HO697 := n3_; have BK660 := n4_; have BK673 := n5_; have BK682 := n6_; have BK690 := n7_; have HB := n8_; have BK698 := n9_; have GW698 := n10_; have GE698 := n11_; have NB660_698 := n12_; have NB698_660 := n13_; have NB673_698 := n14_; have NB698_673 := n15_; have NB682_698 := n16_; have NB698_682 := n17_; have NB690_698 := n18_; have NB698_690 := n19_; clear n0_ n1_ n2_ n3_ n4_ n5_ n6_ n7_ n8_ n9_ n10_ n11_ n12_ n13_ n14_ n15_ n16_ n17_ n18_ n19_; clear hb hbox hg; have hnb58 := NB698_660.out; have hnc58 := NB660_698.out; have hnb59 := NB698_673.out; have hnc59 := NB673_698.out; have hnb60 := NB698_682.out; have hnc60 := NB682_698.out; have hnb61 := NB698_690.out; have hnc61 := NB690_698.out; have hcz62_0 : w57.cell? ⟨gb698, 0, none⟩ = some (.int .i64 0) := (blk_cell BK698.out 0).trans rfl; have hcz62_1 : w57.cell? ⟨gb698, 1, none⟩ = some (.int .i64 0) := (blk_cell BK698.out 1).trans rfl; have hcz62_2 : w57.cell? ⟨gb698, 2, none⟩ = some (.int .i64 0) := (blk_cell BK698.out 2).trans rfl; have hcz62_3 : w57.cell? ⟨gb698, 3, none⟩ = some (.int .u8 0) := (blk_cell BK698.out 3).trans rfl; have hfz62_0 := blk_frozen BK698.out 0; have hfz62_1 := blk_frozen BK698.out 1; have hfz62_2 := blk_frozen BK698.out 2; have hfz62_3 := blk_frozen BK698.out 3))
                            have n0_ : Aside0 (Kd.R (Kd.int .i64) 3 ((((w57.setCell ⟨gb698, 0, none⟩ (.int .i64 t691)).setCell ⟨gb698, 1, none⟩ (.int .i64 t692)).setCell ⟨gb698, 2, none⟩ (.int .i64 t693)).setCell ⟨gb698, 3, none⟩ (.int .u8 t694)) w.heap.size (fun k_ => some k_ ≠ (v688 : Value).ownBlock) v670 t669) := ⟨by (with_reducible repeat (first | apply Kd.R_alloc | apply Kd.R_drewN | apply Kd.R_drew)); exact Kd.R_mono (Kd.R_far (p := ⟨gb698, 3, none⟩) (Kd.R_far (p := ⟨gb698, 2, none⟩) (Kd.R_far (p := ⟨gb698, 1, none⟩) (Kd.R_far (p := ⟨gb698, 0, none⟩) (Kd.R_types HO671.out BK698.out (by decide)) (fun _ hk => hk.2) (.int .i64 t691)) (fun _ hk => hk.2) (.int .i64 t692)) (fun _ hk => hk.2) (.int .i64 t693)) (fun _ hk => hk.2) (.int .u8 t694)) (fun _ hk => hk.1.2)⟩
                            have n1_ : Aside0 (Kd.V (Kd.int .i64) 3 ((((w57.setCell ⟨gb698, 0, none⟩ (.int .i64 t691)).setCell ⟨gb698, 1, none⟩ (.int .i64 t692)).setCell ⟨gb698, 2, none⟩ (.int .i64 t693)).setCell ⟨gb698, 3, none⟩ (.int .u8 t694)) w.heap.size (fun k_ => some k_ ≠ (v670 : Value).ownBlock ∧ some k_ ≠ (v688 : Value).ownBlock ∧ k_ ≠ gb660 ∧ k_ ≠ gb673 ∧ k_ ≠ gb682 ∧ k_ ≠ gb690 ∧ k_ ≠ gb698) v679 t678) := ⟨by (with_reducible repeat (first | apply Kd.V_alloc | apply Kd.V_drewN | apply Kd.V_drew)); exact Kd.V_mono (Kd.V_far (p := ⟨gb698, 3, none⟩) (Kd.V_far (p := ⟨gb698, 2, none⟩) (Kd.V_far (p := ⟨gb698, 1, none⟩) (Kd.V_far (p := ⟨gb698, 0, none⟩) (Kd.V_mono HO680.out (fun k_ hk => (⟨hk, hk.2⟩ : _ ∧ k_ ≠ gb698))) (fun _ hk => hk.2) (.int .i64 t691)) (fun _ hk => hk.2) (.int .i64 t692)) (fun _ hk => hk.2) (.int .i64 t693)) (fun _ hk => hk.2) (.int .u8 t694)) (fun _ hk => ⟨hk.1.1.1.1.1.1, ⟨hk.1.1.1.2, ⟨hk.1.1.1.1.1.2.1, ⟨hk.1.1.1.1.1.2.2, ⟨hk.1.1.1.1.2, ⟨hk.1.1.2, hk.1.2⟩⟩⟩⟩⟩⟩)⟩
                            have n2_ : Aside0 (Kd.R (Kd.int .i64) 3 ((((w57.setCell ⟨gb698, 0, none⟩ (.int .i64 t691)).setCell ⟨gb698, 1, none⟩ (.int .i64 t692)).setCell ⟨gb698, 2, none⟩ (.int .i64 t693)).setCell ⟨gb698, 3, none⟩ (.int .u8 t694)) w.heap.size (fun k_ => some k_ ≠ (v670 : Value).ownBlock) v688 t687) := ⟨by (with_reducible repeat (first | apply Kd.R_alloc | apply Kd.R_drewN | apply Kd.R_drew)); exact Kd.R_mono (Kd.R_far (p := ⟨gb698, 3, none⟩) (Kd.R_far (p := ⟨gb698, 2, none⟩) (Kd.R_far (p := ⟨gb698, 1, none⟩) (Kd.R_far (p := ⟨gb698, 0, none⟩) (Kd.R_types HO689.out BK698.out (by decide)) (fun _ hk => hk.2) (.int .i64 t691)) (fun _ hk => hk.2) (.int .i64 t692)) (fun _ hk => hk.2) (.int .i64 t693)) (fun _ hk => hk.2) (.int .u8 t694)) (fun _ hk => hk.1.2)⟩
                            have n3_ : Aside0 (Kd.V (Kd.int .i64) 3 ((((w57.setCell ⟨gb698, 0, none⟩ (.int .i64 t691)).setCell ⟨gb698, 1, none⟩ (.int .i64 t692)).setCell ⟨gb698, 2, none⟩ (.int .i64 t693)).setCell ⟨gb698, 3, none⟩ (.int .u8 t694)) w.heap.size (fun k_ => some k_ ≠ (v670 : Value).ownBlock ∧ some k_ ≠ (v688 : Value).ownBlock ∧ k_ ≠ gb660 ∧ k_ ≠ gb673 ∧ k_ ≠ gb682 ∧ k_ ≠ gb690 ∧ k_ ≠ gb698) v696 t695) := ⟨by (with_reducible repeat (first | apply Kd.V_alloc | apply Kd.V_drewN | apply Kd.V_drew)); exact Kd.V_mono (Kd.V_far (p := ⟨gb698, 3, none⟩) (Kd.V_far (p := ⟨gb698, 2, none⟩) (Kd.V_far (p := ⟨gb698, 1, none⟩) (Kd.V_far (p := ⟨gb698, 0, none⟩) (Kd.V_mono HO697.out (fun k_ hk => (⟨hk, hk.2⟩ : _ ∧ k_ ≠ gb698))) (fun _ hk => hk.2) (.int .i64 t691)) (fun _ hk => hk.2) (.int .i64 t692)) (fun _ hk => hk.2) (.int .i64 t693)) (fun _ hk => hk.2) (.int .u8 t694)) (fun _ hk => ⟨hk.1.1.1, ⟨hk.1.1.2.1, ⟨hk.1.1.2.2.1, ⟨hk.1.1.2.2.2.1, ⟨hk.1.1.2.2.2.2.1, ⟨hk.1.1.2.2.2.2.2, hk.1.2⟩⟩⟩⟩⟩⟩)⟩
                            have n4_ : Aside0 (((((w57.setCell ⟨gb698, 0, none⟩ (.int .i64 t691)).setCell ⟨gb698, 1, none⟩ (.int .i64 t692)).setCell ⟨gb698, 2, none⟩ (.int .i64 t693)).setCell ⟨gb698, 3, none⟩ (.int .u8 t694)).heap[gb660]? = some (.cells #[.int .i64 a0_0, .int .i64 a0_1, .int .i64 a0_2, .int .u8 a0_3] 23 (0, 0))) := ⟨by (with_reducible repeat (first | refine qN ?_ _ | refine qD ?_ | refine qA ?_ _)); refine blk_far ?_ NB660_698.out _; (with_reducible repeat (first | refine qN ?_ _ | refine qD ?_ | refine qA ?_ _)); refine blk_far ?_ NB660_698.out _; (with_reducible repeat (first | refine qN ?_ _ | refine qD ?_ | refine qA ?_ _)); refine blk_far ?_ NB660_698.out _; (with_reducible repeat (first | refine qN ?_ _ | refine qD ?_ | refine qA ?_ _)); refine blk_far ?_ NB660_698.out _; (with_reducible repeat (first | refine qN ?_ _ | refine qD ?_ | refine qA ?_ _)); exact BK660.out⟩
                            have n5_ : Aside0 (((((w57.setCell ⟨gb698, 0, none⟩ (.int .i64 t691)).setCell ⟨gb698, 1, none⟩ (.int .i64 t692)).setCell ⟨gb698, 2, none⟩ (.int .i64 t693)).setCell ⟨gb698, 3, none⟩ (.int .u8 t694)).heap[gb673]? = some (.cells #[.int .i64 t665, .int .i64 t666, .int .i64 t667, .int .u8 t668] 23 (0, 0))) := ⟨by (with_reducible repeat (first | refine qN ?_ _ | refine qD ?_ | refine qA ?_ _)); refine blk_far ?_ NB673_698.out _; (with_reducible repeat (first | refine qN ?_ _ | refine qD ?_ | refine qA ?_ _)); refine blk_far ?_ NB673_698.out _; (with_reducible repeat (first | refine qN ?_ _ | refine qD ?_ | refine qA ?_ _)); refine blk_far ?_ NB673_698.out _; (with_reducible repeat (first | refine qN ?_ _ | refine qD ?_ | refine qA ?_ _)); refine blk_far ?_ NB673_698.out _; (with_reducible repeat (first | refine qN ?_ _ | refine qD ?_ | refine qA ?_ _)); exact BK673.out⟩
                            have n6_ : Aside0 (((((w57.setCell ⟨gb698, 0, none⟩ (.int .i64 t691)).setCell ⟨gb698, 1, none⟩ (.int .i64 t692)).setCell ⟨gb698, 2, none⟩ (.int .i64 t693)).setCell ⟨gb698, 3, none⟩ (.int .u8 t694)).heap[gb682]? = some (.cells #[.int .i64 t674, .int .i64 t675, .int .i64 t676, .int .u8 t677] 23 (0, 0))) := ⟨by (with_reducible repeat (first | refine qN ?_ _ | refine qD ?_ | refine qA ?_ _)); refine blk_far ?_ NB682_698.out _; (with_reducible repeat (first | refine qN ?_ _ | refine qD ?_ | refine qA ?_ _)); refine blk_far ?_ NB682_698.out _; (with_reducible repeat (first | refine qN ?_ _ | refine qD ?_ | refine qA ?_ _)); refine blk_far ?_ NB682_698.out _; (with_reducible repeat (first | refine qN ?_ _ | refine qD ?_ | refine qA ?_ _)); refine blk_far ?_ NB682_698.out _; (with_reducible repeat (first | refine qN ?_ _ | refine qD ?_ | refine qA ?_ _)); exact BK682.out⟩
                            have n7_ : Aside0 (((((w57.setCell ⟨gb698, 0, none⟩ (.int .i64 t691)).setCell ⟨gb698, 1, none⟩ (.int .i64 t692)).setCell ⟨gb698, 2, none⟩ (.int .i64 t693)).setCell ⟨gb698, 3, none⟩ (.int .u8 t694)).heap[gb690]? = some (.cells #[.int .i64 t683, .int .i64 t684, .int .i64 t685, .int .u8 t686] 23 (0, 0))) := ⟨by (with_reducible repeat (first | refine qN ?_ _ | refine qD ?_ | refine qA ?_ _)); refine blk_far ?_ NB690_698.out _; (with_reducible repeat (first | refine qN ?_ _ | refine qD ?_ | refine qA ?_ _)); refine blk_far ?_ NB690_698.out _; (with_reducible repeat (first | refine qN ?_ _ | refine qD ?_ | refine qA ?_ _)); refine blk_far ?_ NB690_698.out _; (with_reducible repeat (first | refine qN ?_ _ | refine qD ?_ | refine qA ?_ _)); refine blk_far ?_ NB690_698.out _; (with_reducible repeat (first | refine qN ?_ _ | refine qD ?_ | refine qA ?_ _)); exact BK690.out⟩
                            have n8_ : Aside0 (((((w57.setCell ⟨gb698, 0, none⟩ (.int .i64 t691)).setCell ⟨gb698, 1, none⟩ (.int .i64 t692)).setCell ⟨gb698, 2, none⟩ (.int .i64 t693)).setCell ⟨gb698, 3, none⟩ (.int .u8 t694)).heap[gb698]? = some (.cells #[.int .i64 t691, .int .i64 t692, .int .i64 t693, .int .u8 t694] 23 (0, 0))) := ⟨by (with_reducible repeat (first | refine qN ?_ _ | refine qD ?_ | refine qA ?_ _)); refine blk_put (cs := #[.int .i64 t691, .int .i64 t692, .int .i64 t693, .int .u8 0]) ?_ 3 _ rfl; (with_reducible repeat (first | refine qN ?_ _ | refine qD ?_ | refine qA ?_ _)); refine blk_put (cs := #[.int .i64 t691, .int .i64 t692, .int .i64 0, .int .u8 0]) ?_ 2 _ rfl; (with_reducible repeat (first | refine qN ?_ _ | refine qD ?_ | refine qA ?_ _)); refine blk_put (cs := #[.int .i64 t691, .int .i64 0, .int .i64 0, .int .u8 0]) ?_ 1 _ rfl; (with_reducible repeat (first | refine qN ?_ _ | refine qD ?_ | refine qA ?_ _)); refine blk_put (cs := #[.int .i64 0, .int .i64 0, .int .i64 0, .int .u8 0]) ?_ 0 _ rfl; (with_reducible repeat (first | refine qN ?_ _ | refine qD ?_ | refine qA ?_ _)); exact BK698.out⟩
                            have n9_ : Aside0 (Below w.heap.size w ((((w57.setCell ⟨gb698, 0, none⟩ (.int .i64 t691)).setCell ⟨gb698, 1, none⟩ (.int .i64 t692)).setCell ⟨gb698, 2, none⟩ (.int .i64 t693)).setCell ⟨gb698, 3, none⟩ (.int .u8 t694))) := ⟨by repeat (first | (with_reducible first | exact HB.out | apply pA | apply pN | apply pD | refine pS ?_ GE660.out | refine pS ?_ GE673.out | refine pS ?_ GE682.out | refine pS ?_ GE690.out | refine pS ?_ GE698.out) | exact HB.out)⟩
                            (try clear HO671)
                            (try clear HO680)
                            (try clear HO689)
                            (try clear HO697)
                            (try clear BK660)
                            (try clear BK673)
                            (try clear BK682)
                            (try clear BK690)
                            (try clear BK698)
                            (try clear HB)
                            generalize ((((w57.setCell ⟨gb698, 0, none⟩ (.int .i64 t691)).setCell ⟨gb698, 1, none⟩ (.int .i64 t692)).setCell ⟨gb698, 2, none⟩ (.int .i64 t693)).setCell ⟨gb698, 3, none⟩ (.int .u8 t694)) = w63 at n0_ n1_ n2_ n3_ n4_ n5_ n6_ n7_ n8_ n9_ ⊢
                            have HO671 := n0_
                            have HO680 := n1_
                            have HO689 := n2_
                            have HO697 := n3_
                            have BK660 := n4_
                            have BK673 := n5_
                            have BK682 := n6_
                            have BK690 := n7_
                            have BK698 := n8_
                            have HB := n9_
                            clear n0_ n1_ n2_ n3_ n4_ n5_ n6_ n7_ n8_ n9_
                            have n0_ := Aside0.mk (Kd.R_drew HO671.out)
                            have n1_ := Aside0.mk (Kd.V_drew HO680.out)
                            have n2_ := Aside0.mk (Kd.R_drew HO689.out)
                            have n3_ := Aside0.mk (Kd.V_drew HO697.out)
                            have n4_ := Aside0.mk (qD BK660.out)
                            have n5_ := Aside0.mk (qD BK673.out)
                            have n6_ := Aside0.mk (qD BK682.out)
                            have n7_ := Aside0.mk (qD BK690.out)
                            have n8_ := Aside0.mk (qD BK698.out)
                            have n9_ := Aside0.mk (pD HB.out)
                            clear HO671
                            clear HO680
                            clear HO689
                            clear HO697
                            clear BK660
                            clear BK673
                            clear BK682
                            clear BK690
                            clear BK698
                            clear HB
                            have HO671 := n0_
                            have HO680 := n1_
                            have HO689 := n2_
                            have HO697 := n3_
                            have BK660 := n4_
                            have BK673 := n5_
                            have BK682 := n6_
                            have BK690 := n7_
                            have BK698 := n8_
                            have HB := n9_
                            clear n0_ n1_ n2_ n3_ n4_ n5_ n6_ n7_ n8_ n9_
                            obtain ⟨Ao65, co65, eo65⟩ := Kd.R_slice HO671.out
                            (first | subst eo65 | (injection eo65 with f1_ f2_ f3_; have f4_ := f1_.symm; have f5_ := f3_.symm; clear f1_ f2_ f3_; subst f4_; subst f5_))
                            obtain ⟨Ao66, co66, eo66⟩ := Kd.V_slice HO680.out
                            (first | subst eo66 | (injection eo66 with f1_ f2_ f3_; have f4_ := f1_.symm; have f5_ := f3_.symm; clear f1_ f2_ f3_; subst f4_; subst f5_))
                            refine start_ (n := 36) (S := fun w' => w'.cell? ⟨gb673, 0, none⟩ = some (.int .i64 t665) ∧ w'.cell? ⟨gb673, 1, none⟩ = some (.int .i64 t666) ∧ w'.cell? ⟨gb673, 2, none⟩ = some (.int .i64 t667) ∧ w'.cell? ⟨gb673, 3, none⟩ = some (.int .u8 t668) ∧ w'.cell? ⟨gb682, 0, none⟩ = some (.int .i64 t674) ∧ w'.cell? ⟨gb682, 1, none⟩ = some (.int .i64 t675) ∧ w'.cell? ⟨gb682, 2, none⟩ = some (.int .i64 t676) ∧ w'.cell? ⟨gb682, 3, none⟩ = some (.int .u8 t677) ∧ w'.cell? ⟨gb690, 0, none⟩ = some (.int .i64 t683) ∧ w'.cell? ⟨gb690, 1, none⟩ = some (.int .i64 t684) ∧ w'.cell? ⟨gb690, 2, none⟩ = some (.int .i64 t685) ∧ w'.cell? ⟨gb690, 3, none⟩ = some (.int .u8 t686) ∧ w'.cell? ⟨gb698, 0, none⟩ = some (.int .i64 t691) ∧ w'.cell? ⟨gb698, 1, none⟩ = some (.int .i64 t692) ∧ w'.cell? ⟨gb698, 2, none⟩ = some (.int .i64 t693) ∧ w'.cell? ⟨gb698, 3, none⟩ = some (.int .u8 t694) ∧ w'.cell? ⟨gb660, 0, none⟩ = some (.int .i64 a0_0) ∧ w'.cell? ⟨gb660, 1, none⟩ = some (.int .i64 a0_1) ∧ w'.cell? ⟨gb660, 2, none⟩ = some (.int .i64 a0_2) ∧ w'.cell? ⟨gb660, 3, none⟩ = some (.int .u8 a0_3)) (ds := []) #[false, false, false, false, false, false, false, false, false, false, false, false, false, false, false, false, false, false, false, false, false, false, false, false, false, false, false, false, false, false, false, false, false, false, false, false] (by kernel_rfl) rfl rfl ⟨(blk_cell BK673.out 0).trans rfl, (blk_cell BK673.out 1).trans rfl, (blk_cell BK673.out 2).trans rfl, (blk_cell BK673.out 3).trans rfl, (blk_cell BK682.out 0).trans rfl, (blk_cell BK682.out 1).trans rfl, (blk_cell BK682.out 2).trans rfl, (blk_cell BK682.out 3).trans rfl, (blk_cell BK690.out 0).trans rfl, (blk_cell BK690.out 1).trans rfl, (blk_cell BK690.out 2).trans rfl, (blk_cell BK690.out 3).trans rfl, (blk_cell BK698.out 0).trans rfl, (blk_cell BK698.out 1).trans rfl, (blk_cell BK698.out 2).trans rfl, (blk_cell BK698.out 3).trans rfl, (blk_cell BK660.out 0).trans rfl, (blk_cell BK660.out 1).trans rfl, (blk_cell BK660.out 2).trans rfl, (blk_cell BK660.out 3).trans rfl⟩ (fun hHeld => ?_); refine with_tabW portreevelaw12_AutoTells.tab13 portreevelaw12_AutoTells.bits13 (fun HT_ HW_ => ?_)
                            generalize w63.drew = w64 at HO671 HO680 HO689 HO697 BK660 BK673 BK682 BK690 BK698 HB hHeld ⊢
                            refine pure_ (i := 0) (N := some 64) (v := ?_) (a' := ?_) #[true, false, false, false, false, false, false, false, false, false, false, false, false, false, false, false, false, false, false, false, false, false, false, false, false, false, false, false, false, false, false, false, false, false, false, false] rfl rfl (any_of HT_.out (by kernel_rfl)) (fun _ _ _ h => h) (Or.inl ⟨by rfl, ?_⟩) ?_ ?_
                            rotate_left
                            · intro w'
                              go_simp
                              with_reducible rfl
                            rotate_left
                            · simp only [Act.put, List.setIfInBounds_toArray, List.set_cons_zero, List.set_cons_succ, i64_w, i32_w]
                              rfl
                            refine pure_ (i := 1) (N := some 65) (v := ?_) (a' := ?_) #[true, true, false, false, false, false, false, false, false, false, false, false, false, false, false, false, false, false, false, false, false, false, false, false, false, false, false, false, false, false, false, false, false, false, false, false] rfl rfl (any_of HT_.out (by kernel_rfl)) (fun _ _ _ h => h) (Or.inl ⟨by rfl, ?_⟩) ?_ ?_
                            rotate_left
                            · intro w'
                              go_simp
                              with_reducible rfl
                            rotate_left
                            · simp only [Act.put, List.setIfInBounds_toArray, List.set_cons_zero, List.set_cons_succ, i64_w, i32_w]
                              rfl
                            refine take_ (i := 2) (N := some 66) (v := ?_) (a' := ?_) #[true, true, true, false, false, false, false, false, false, false, false, false, false, false, false, false, false, false, false, false, false, false, false, false, false, false, false, false, false, false, false, false, false, false, false, false] rfl rfl (take_ofW HT_.out HW_.out (by kernel_rfl)) (fun _ _ _ h => h) (Or.inl ⟨by rfl, ?_⟩) hHeld ?_ ?_
                            rotate_left
                            · rintro w' ⟨s0, s1, s2, s3, s4, s5, s6, s7, s8, s9, s10, s11, s12, s13, s14, s15, s16, s17, s18, s19⟩
                              go_simp
                              with_reducible rfl
                            rotate_left
                            · simp only [Act.put, List.setIfInBounds_toArray, List.set_cons_zero, List.set_cons_succ, i64_w, i32_w]
                              rfl
                            refine take_ (i := 3) (N := some 67) (v := ?_) (a' := ?_) #[true, true, true, true, false, false, false, false, false, false, false, false, false, false, false, false, false, false, false, false, false, false, false, false, false, false, false, false, false, false, false, false, false, false, false, false] rfl rfl (take_ofW HT_.out HW_.out (by kernel_rfl)) (fun _ _ _ h => h) (Or.inl ⟨by rfl, ?_⟩) hHeld ?_ ?_
                            rotate_left
                            · rintro w' ⟨s0, s1, s2, s3, s4, s5, s6, s7, s8, s9, s10, s11, s12, s13, s14, s15, s16, s17, s18, s19⟩
                              go_simp
                              with_reducible rfl
                            rotate_left
                            · simp only [Act.put, List.setIfInBounds_toArray, List.set_cons_zero, List.set_cons_succ, i64_w, i32_w]
                              rfl
                            refine pure_ (i := 4) (N := some 68) (v := ?_) (a' := ?_) #[true, true, true, true, true, false, false, false, false, false, false, false, false, false, false, false, false, false, false, false, false, false, false, false, false, false, false, false, false, false, false, false, false, false, false, false] rfl rfl (any_of HT_.out (by kernel_rfl)) (fun _ _ _ h => h) (Or.inl ⟨by rfl, ?_⟩) ?_ ?_
                            rotate_left
                            · intro w'
                              go_simp
                              with_reducible rfl
                            rotate_left
                            · simp only [Act.put, List.setIfInBounds_toArray, List.set_cons_zero, List.set_cons_succ, i64_w, i32_w]
                              rfl
                            refine pure_ (i := 5) (N := some 69) (v := ?_) (a' := ?_) #[true, true, true, true, true, true, false, false, false, false, false, false, false, false, false, false, false, false, false, false, false, false, false, false, false, false, false, false, false, false, false, false, false, false, false, false] rfl rfl (any_of HT_.out (by kernel_rfl)) (fun _ _ _ h => h) (Or.inl ⟨by rfl, ?_⟩) ?_ ?_
                            rotate_left
                            · intro w'
                              go_simp
                              with_reducible rfl
                            rotate_left
                            · simp only [Act.put, List.setIfInBounds_toArray, List.set_cons_zero, List.set_cons_succ, i64_w, i32_w]
                              rfl
                            refine pure_ (i := 6) (N := some 70) (v := ?_) (a' := ?_) #[true, true, true, true, true, true, true, false, false, false, false, false, false, false, false, false, false, false, false, false, false, false, false, false, false, false, false, false, false, false, false, false, false, false, false, false] rfl rfl (any_of HT_.out (by kernel_rfl)) (fun _ _ _ h => h) (Or.inl ⟨by rfl, ?_⟩) ?_ ?_
                            rotate_left
                            · intro w'
                              go_simp
                              with_reducible rfl
                            rotate_left
                            · simp only [Act.put, List.setIfInBounds_toArray, List.set_cons_zero, List.set_cons_succ, i64_w, i32_w]
                              rfl
                            refine pure_ (i := 7) (N := some 71) (v := ?_) (a' := ?_) #[true, true, true, true, true, true, true, true, false, false, false, false, false, false, false, false, false, false, false, false, false, false, false, false, false, false, false, false, false, false, false, false, false, false, false, false] rfl rfl (any_of HT_.out (by kernel_rfl)) (fun _ _ _ h => h) (Or.inl ⟨by rfl, ?_⟩) ?_ ?_
                            rotate_left
                            · intro w'
                              go_simp
                              with_reducible rfl
                            rotate_left
                            · simp only [Act.put, List.setIfInBounds_toArray, List.set_cons_zero, List.set_cons_succ, i64_w, i32_w]
                              rfl
                            refine pure_ (i := 8) (N := some 72) (v := ?_) (a' := ?_) #[true, true, true, true, true, true, true, true, true, false, false, false, false, false, false, false, false, false, false, false, false, false, false, false, false, false, false, false, false, false, false, false, false, false, false, false] rfl rfl (any_of HT_.out (by kernel_rfl)) (fun _ _ _ h => h) (Or.inl ⟨by rfl, ?_⟩) ?_ ?_
                            rotate_left
                            · intro w'
                              go_simp
                              with_reducible rfl
                            rotate_left
                            · simp only [Act.put, List.setIfInBounds_toArray, List.set_cons_zero, List.set_cons_succ, i64_w, i32_w]
                              rfl
                            refine one_ (i := 9) (N := some 73) #[true, true, true, true, true, true, true, true, true, true, false, false, false, false, false, false, false, false, false, false, false, false, false, false, false, false, false, false, false, false, false, false, false, false, false, false] rfl rfl (one_of HT_.out (by kernel_rfl)) (by decide) (fun K hK => ?_)
                            refine goes_ Tryd.func17 (by kernel_rfl) rfl #[.slice Ao65 t669.length co65, .slice Ao66 t678.length co66] (by rfl) rfl rfl (by (try simp only [List.map_toArray, List.map_cons, List.map_nil]); first | done | rfl | (simp only [List.length_drop, List.length_take]; rfl)) ?_
                            with_reducible refine (portreeveref11_Ints.calls kj10 _ _ t669 _ _ t678 true _ ?side1 ?side2 ?side3 ?side4 A29.out).mono ?_
                            (case side1 => repeat (first | exact (Kd.R_reads' HO671.out).2.2 | (with_reducible refine Kd.C_alloc ?_ _) | (with_reducible refine Kd.C_drewN ?_ _) | (with_reducible refine Kd.C_drew ?_)))
                            (case side2 => exact (Kd.R_reads' HO671.out).2.1)
                            (case side3 => repeat (first | exact (Kd.V_reads' HO680.out).2.2 | (with_reducible refine Kd.C_alloc ?_ _) | (with_reducible refine Kd.C_drewN ?_ _) | (with_reducible refine Kd.C_drew ?_)))
                            (case side4 => exact (Kd.V_reads' HO680.out).2.1)
                            rintro e w' ⟨rfl, ⟨nd, rfl⟩⟩
                            refine ⟨_, rfl, ?_⟩
                            obtain ⟨Ao67, co67, eo67⟩ := Kd.R_slice HO689.out
                            (first | subst eo67 | (injection eo67 with f1_ f2_ f3_; have f4_ := f1_.symm; have f5_ := f3_.symm; clear f1_ f2_ f3_; subst f4_; subst f5_))
                            obtain ⟨Ao68, co68, eo68⟩ := Kd.V_slice HO697.out
                            (first | subst eo68 | (injection eo68 with f1_ f2_ f3_; have f4_ := f1_.symm; have f5_ := f3_.symm; clear f1_ f2_ f3_; subst f4_; subst f5_))
                            refine hK.out _ _ ⟨(blk_cell BK673.out 0).trans rfl, (blk_cell BK673.out 1).trans rfl, (blk_cell BK673.out 2).trans rfl, (blk_cell BK673.out 3).trans rfl, (blk_cell BK682.out 0).trans rfl, (blk_cell BK682.out 1).trans rfl, (blk_cell BK682.out 2).trans rfl, (blk_cell BK682.out 3).trans rfl, (blk_cell BK690.out 0).trans rfl, (blk_cell BK690.out 1).trans rfl, (blk_cell BK690.out 2).trans rfl, (blk_cell BK690.out 3).trans rfl, (blk_cell BK698.out 0).trans rfl, (blk_cell BK698.out 1).trans rfl, (blk_cell BK698.out 2).trans rfl, (blk_cell BK698.out 3).trans rfl, (blk_cell BK660.out 0).trans rfl, (blk_cell BK660.out 1).trans rfl, (blk_cell BK660.out 2).trans rfl, (blk_cell BK660.out 3).trans rfl⟩ (fun hHeld => ?_)
                            clear hK K
                            refine norm_ (a' := ?_) ?_ ?_
                            rotate_left
                            · show Act.put _ (some 73) _ = _
                              simp only [Act.put, List.setIfInBounds_toArray, List.set_cons_zero, List.set_cons_succ, i64_w, i32_w]
                              rfl
                            refine pure_ (i := 10) (N := some 74) (v := ?_) (a' := ?_) #[true, true, true, true, true, true, true, true, true, true, true, false, false, false, false, false, false, false, false, false, false, false, false, false, false, false, false, false, false, false, false, false, false, false, false, false] rfl rfl (any_of HT_.out (by kernel_rfl)) (fun _ _ _ h => h) (Or.inl ⟨by rfl, ?_⟩) ?_ ?_
                            rotate_left
                            · intro w'
                              go_simp
                              with_reducible rfl
                            rotate_left
                            · simp only [Act.put, List.setIfInBounds_toArray, List.set_cons_zero, List.set_cons_succ, i64_w, i32_w]
                              rfl
                            refine pure_ (i := 11) (N := some 75) (v := ?_) (a' := ?_) #[true, true, true, true, true, true, true, true, true, true, true, true, false, false, false, false, false, false, false, false, false, false, false, false, false, false, false, false, false, false, false, false, false, false, false, false] rfl rfl (any_of HT_.out (by kernel_rfl)) (fun _ _ _ h => h) (Or.inl ⟨by rfl, ?_⟩) ?_ ?_
                            rotate_left
                            · intro w'
                              go_simp
                              with_reducible rfl
                            rotate_left
                            · simp only [Act.put, List.setIfInBounds_toArray, List.set_cons_zero, List.set_cons_succ, i64_w, i32_w]
                              rfl
                            refine pure_ (i := 12) (N := some 76) (v := ?_) (a' := ?_) #[true, true, true, true, true, true, true, true, true, true, true, true, true, false, false, false, false, false, false, false, false, false, false, false, false, false, false, false, false, false, false, false, false, false, false, false] rfl rfl (any_of HT_.out (by kernel_rfl)) (fun _ _ _ h => h) (Or.inl ⟨by rfl, ?_⟩) ?_ ?_
                            rotate_left
                            · intro w'
                              go_simp
                              with_reducible rfl
                            rotate_left
                            · simp only [Act.put, List.setIfInBounds_toArray, List.set_cons_zero, List.set_cons_succ, i64_w, i32_w]
                              rfl
                            refine pure_ (i := 13) (N := some 77) (v := ?_) (a' := ?_) #[true, true, true, true, true, true, true, true, true, true, true, true, true, true, false, false, false, false, false, false, false, false, false, false, false, false, false, false, false, false, false, false, false, false, false, false] rfl rfl (any_of HT_.out (by kernel_rfl)) (fun _ _ _ h => h) (Or.inl ⟨by rfl, ?_⟩) ?_ ?_
                            rotate_left
                            · intro w'
                              go_simp
                              with_reducible rfl
                            rotate_left
                            · simp only [Act.put, List.setIfInBounds_toArray, List.set_cons_zero, List.set_cons_succ, i64_w, i32_w]
                              rfl
                            refine pure_ (i := 14) (N := some 78) (v := ?_) (a' := ?_) #[true, true, true, true, true, true, true, true, true, true, true, true, true, true, true, false, false, false, false, false, false, false, false, false, false, false, false, false, false, false, false, false, false, false, false, false] rfl rfl (any_of HT_.out (by kernel_rfl)) (fun _ _ _ h => h) (Or.inl ⟨by rfl, ?_⟩) ?_ ?_
                            rotate_left
                            · intro w'
                              go_simp
                              with_reducible rfl
                            rotate_left
                            · simp only [Act.put, List.setIfInBounds_toArray, List.set_cons_zero, List.set_cons_succ, i64_w, i32_w]
                              rfl
                            refine pure_ (i := 15) (N := some 79) (v := ?_) (a' := ?_) #[true, true, true, true, true, true, true, true, true, true, true, true, true, true, true, true, false, false, false, false, false, false, false, false, false, false, false, false, false, false, false, false, false, false, false, false] rfl rfl (any_of HT_.out (by kernel_rfl)) (fun _ _ _ h => h) (Or.inl ⟨by rfl, ?_⟩) ?_ ?_
                            rotate_left
                            · intro w'
                              go_simp
                              with_reducible rfl
                            rotate_left
                            · simp only [Act.put, List.setIfInBounds_toArray, List.set_cons_zero, List.set_cons_succ, i64_w, i32_w]
                              rfl
                            refine pure_ (i := 16) (N := some 80) (v := ?_) (a' := ?_) #[true, true, true, true, true, true, true, true, true, true, true, true, true, true, true, true, true, false, false, false, false, false, false, false, false, false, false, false, false, false, false, false, false, false, false, false] rfl rfl (any_of HT_.out (by kernel_rfl)) (fun _ _ _ h => h) (Or.inl ⟨by rfl, ?_⟩) ?_ ?_
                            rotate_left
                            · intro w'
                              go_simp
                              with_reducible rfl
                            rotate_left
                            · simp only [Act.put, List.setIfInBounds_toArray, List.set_cons_zero, List.set_cons_succ, i64_w, i32_w]
                              rfl
                            refine take_ (i := 17) (N := some 81) (v := ?_) (a' := ?_) #[true, true, true, true, true, true, true, true, true, true, true, true, true, true, true, true, true, true, false, false, false, false, false, false, false, false, false, false, false, false, false, false, false, false, false, false] rfl rfl (take_ofW HT_.out HW_.out (by kernel_rfl)) (fun _ _ _ h => h) (Or.inl ⟨by rfl, ?_⟩) hHeld ?_ ?_
                            rotate_left
                            · rintro w' ⟨s0, s1, s2, s3, s4, s5, s6, s7, s8, s9, s10, s11, s12, s13, s14, s15, s16, s17, s18, s19⟩
                              go_simp
                              with_reducible rfl
                            rotate_left
                            · simp only [Act.put, List.setIfInBounds_toArray, List.set_cons_zero, List.set_cons_succ, i64_w, i32_w]
                              rfl
                            refine take_ (i := 18) (N := some 82) (v := ?_) (a' := ?_) #[true, true, true, true, true, true, true, true, true, true, true, true, true, true, true, true, true, true, true, false, false, false, false, false, false, false, false, false, false, false, false, false, false, false, false, false] rfl rfl (take_ofW HT_.out HW_.out (by kernel_rfl)) (fun _ _ _ h => h) (Or.inl ⟨by rfl, ?_⟩) hHeld ?_ ?_
                            rotate_left
                            · rintro w' ⟨s0, s1, s2, s3, s4, s5, s6, s7, s8, s9, s10, s11, s12, s13, s14, s15, s16, s17, s18, s19⟩
                              go_simp
                              with_reducible rfl
                            rotate_left
                            · simp only [Act.put, List.setIfInBounds_toArray, List.set_cons_zero, List.set_cons_succ, i64_w, i32_w]
                              rfl
                            refine pure_ (i := 19) (N := some 83) (v := ?_) (a' := ?_) #[true, true, true, true, true, true, true, true, true, true, true, true, true, true, true, true, true, true, true, true, false, false, false, false, false, false, false, false, false, false, false, false, false, false, false, false] rfl rfl (any_of HT_.out (by kernel_rfl)) (fun _ _ _ h => h) (Or.inl ⟨by rfl, ?_⟩) ?_ ?_
                            rotate_left
                            · intro w'
                              go_simp
                              with_reducible rfl
                            rotate_left
                            · simp only [Act.put, List.setIfInBounds_toArray, List.set_cons_zero, List.set_cons_succ, i64_w, i32_w]
                              rfl
                            refine pure_ (i := 20) (N := some 84) (v := ?_) (a' := ?_) #[true, true, true, true, true, true, true, true, true, true, true, true, true, true, true, true, true, true, true, true, true, false, false, false, false, false, false, false, false, false, false, false, false, false, false, false] rfl rfl (any_of HT_.out (by kernel_rfl)) (fun _ _ _ h => h) (Or.inl ⟨by rfl, ?_⟩) ?_ ?_
                            rotate_left
                            · intro w'
                              go_simp
                              with_reducible rfl
                            rotate_left
                            · simp only [Act.put, List.setIfInBounds_toArray, List.set_cons_zero, List.set_cons_succ, i64_w, i32_w]
                              rfl
                            refine pure_ (i := 21) (N := some 85) (v := ?_) (a' := ?_) #[true, true, true, true, true, true, true, true, true, true, true, true, true, true, true, true, true, true, true, true, true, true, false, false, false, false, false, false, false, false, false, false, false, false, false, false] rfl rfl (any_of HT_.out (by kernel_rfl)) (fun _ _ _ h => h) (Or.inl ⟨by rfl, ?_⟩) ?_ ?_
                            rotate_left
                            · intro w'
                              go_simp
                              with_reducible rfl
                            rotate_left
                            · simp only [Act.put, List.setIfInBounds_toArray, List.set_cons_zero, List.set_cons_succ, i64_w, i32_w]
                              rfl
                            refine pure_ (i := 22) (N := some 86) (v := ?_) (a' := ?_) #[true, true, true, true, true, true, true, true, true, true, true, true, true, true, true, true, true, true, true, true, true, true, true, false, false, false, false, false, false, false, false, false, false, false, false, false] rfl rfl (any_of HT_.out (by kernel_rfl)) (fun _ _ _ h => h) (Or.inl ⟨by rfl, ?_⟩) ?_ ?_
                            rotate_left
                            · intro w'
                              go_simp
                              with_reducible rfl
                            rotate_left
                            · simp only [Act.put, List.setIfInBounds_toArray, List.set_cons_zero, List.set_cons_succ, i64_w, i32_w]
                              rfl
                            refine pure_ (i := 23) (N := some 87) (v := ?_) (a' := ?_) #[true, true, true, true, true, true, true, true, true, true, true, true, true, true, true, true, true, true, true, true, true, true, true, true, false, false, false, false, false, false, false, false, false, false, false, false] rfl rfl (any_of HT_.out (by kernel_rfl)) (fun _ _ _ h => h) (Or.inl ⟨by rfl, ?_⟩) ?_ ?_
                            rotate_left
                            · intro w'
                              go_simp
                              with_reducible rfl
                            rotate_left
                            · simp only [Act.put, List.setIfInBounds_toArray, List.set_cons_zero, List.set_cons_succ, i64_w, i32_w]
                              rfl
                            refine one_ (i := 24) (N := some 88) #[true, true, true, true, true, true, true, true, true, true, true, true, true, true, true, true, true, true, true, true, true, true, true, true, true, false, false, false, false, false, false, false, false, false, false, false] rfl rfl (one_of HT_.out (by kernel_rfl)) (by decide) (fun K hK => ?_)
                            refine goes_ Tryd.func17 (by kernel_rfl) rfl #[.slice Ao67 t687.length co67, .slice Ao68 t695.length co68] (by rfl) rfl rfl (by (try simp only [List.map_toArray, List.map_cons, List.map_nil]); first | done | rfl | (simp only [List.length_drop, List.length_take]; rfl)) ?_
                            with_reducible refine (portreeveref11_Ints.calls kj10 _ _ t687 _ _ t695 true _ ?side1 ?side2 ?side3 ?side4 A33.out).mono ?_
                            (case side1 => repeat (first | exact (Kd.R_reads' HO689.out).2.2 | (with_reducible refine Kd.C_alloc ?_ _) | (with_reducible refine Kd.C_drewN ?_ _) | (with_reducible refine Kd.C_drew ?_)))
                            (case side2 => exact (Kd.R_reads' HO689.out).2.1)
                            (case side3 => repeat (first | exact (Kd.V_reads' HO697.out).2.2 | (with_reducible refine Kd.C_alloc ?_ _) | (with_reducible refine Kd.C_drewN ?_ _) | (with_reducible refine Kd.C_drew ?_)))
                            (case side4 => exact (Kd.V_reads' HO697.out).2.1)
                            rintro e w' ⟨rfl, ⟨nd, rfl⟩⟩
                            refine ⟨_, rfl, ?_⟩
                            refine hK.out _ _ ⟨(blk_cell BK673.out 0).trans rfl, (blk_cell BK673.out 1).trans rfl, (blk_cell BK673.out 2).trans rfl, (blk_cell BK673.out 3).trans rfl, (blk_cell BK682.out 0).trans rfl, (blk_cell BK682.out 1).trans rfl, (blk_cell BK682.out 2).trans rfl, (blk_cell BK682.out 3).trans rfl, (blk_cell BK690.out 0).trans rfl, (blk_cell BK690.out 1).trans rfl, (blk_cell BK690.out 2).trans rfl, (blk_cell BK690.out 3).trans rfl, (blk_cell BK698.out 0).trans rfl, (blk_cell BK698.out 1).trans rfl, (blk_cell BK698.out 2).trans rfl, (blk_cell BK698.out 3).trans rfl, (blk_cell BK660.out 0).trans rfl, (blk_cell BK660.out 1).trans rfl, (blk_cell BK660.out 2).trans rfl, (blk_cell BK660.out 3).trans rfl⟩ (fun hHeld => ?_)
                            clear hK K
                            refine norm_ (a' := ?_) ?_ ?_
                            rotate_left
                            · show Act.put _ (some 88) _ = _
                              simp only [Act.put, List.setIfInBounds_toArray, List.set_cons_zero, List.set_cons_succ, i64_w, i32_w]
                              rfl
                            refine pure_ (i := 25) (N := some 89) (v := ?_) (a' := ?_) #[true, true, true, true, true, true, true, true, true, true, true, true, true, true, true, true, true, true, true, true, true, true, true, true, true, true, false, false, false, false, false, false, false, false, false, false] rfl rfl (any_of HT_.out (by kernel_rfl)) (fun _ _ _ h => h) (Or.inl ⟨by rfl, ?_⟩) ?_ ?_
                            rotate_left
                            · intro w'
                              go_simp
                              with_reducible rfl
                            rotate_left
                            · simp only [Act.put, List.setIfInBounds_toArray, List.set_cons_zero, List.set_cons_succ, i64_w, i32_w]
                              rfl
                            refine pure_ (i := 26) (N := some 90) (v := ?_) (a' := ?_) #[true, true, true, true, true, true, true, true, true, true, true, true, true, true, true, true, true, true, true, true, true, true, true, true, true, true, true, false, false, false, false, false, false, false, false, false] rfl rfl (any_of HT_.out (by kernel_rfl)) (fun _ _ _ h => h) (Or.inl ⟨by rfl, ?_⟩) ?_ ?_
                            rotate_left
                            · intro w'
                              go_simp
                              with_reducible rfl
                            rotate_left
                            · simp only [Act.put, List.setIfInBounds_toArray, List.set_cons_zero, List.set_cons_succ, i64_w, i32_w]
                              rfl
                            refine pure_ (i := 28) (N := some 92) (v := ?_) (a' := ?_) #[true, true, true, true, true, true, true, true, true, true, true, true, true, true, true, true, true, true, true, true, true, true, true, true, true, true, true, false, true, false, false, false, false, false, false, false] rfl rfl (any_of HT_.out (by kernel_rfl)) (fun _ _ _ h => h) (Or.inl ⟨by rfl, ?_⟩) ?_ ?_
                            rotate_left
                            · intro w'
                              go_simp
                              with_reducible rfl
                            rotate_left
                            · simp only [Act.put, List.setIfInBounds_toArray, List.set_cons_zero, List.set_cons_succ, i64_w, i32_w]
                              rfl
                            refine pure_ (i := 31) (N := some 95) (v := ?_) (a' := ?_) #[true, true, true, true, true, true, true, true, true, true, true, true, true, true, true, true, true, true, true, true, true, true, true, true, true, true, true, false, true, false, false, true, false, false, false, false] rfl rfl (any_of HT_.out (by kernel_rfl)) (fun _ _ _ h => h) (Or.inl ⟨by rfl, ?_⟩) ?_ ?_
                            rotate_left
                            · intro w'
                              go_simp
                              with_reducible rfl
                            rotate_left
                            · simp only [Act.put, List.setIfInBounds_toArray, List.set_cons_zero, List.set_cons_succ, i64_w, i32_w]
                              rfl
                            refine take_ (i := 27) (N := some 91) (v := ?_) (a' := ?_) #[true, true, true, true, true, true, true, true, true, true, true, true, true, true, true, true, true, true, true, true, true, true, true, true, true, true, true, true, true, false, false, true, false, false, false, false] rfl rfl (take_ofW HT_.out HW_.out (by kernel_rfl)) (fun _ _ _ h => h) (Or.inl ⟨by rfl, ?_⟩) hHeld ?_ ?_
                            rotate_left
                            · rintro w' ⟨s0, s1, s2, s3, s4, s5, s6, s7, s8, s9, s10, s11, s12, s13, s14, s15, s16, s17, s18, s19⟩
                              go_simp
                              with_reducible rfl
                            rotate_left
                            · simp only [Act.put, List.setIfInBounds_toArray, List.set_cons_zero, List.set_cons_succ, i64_w, i32_w]
                              rfl
                            refine take_ (i := 30) (N := some 94) (v := ?_) (a' := ?_) #[true, true, true, true, true, true, true, true, true, true, true, true, true, true, true, true, true, true, true, true, true, true, true, true, true, true, true, true, true, false, true, true, false, false, false, false] rfl rfl (take_ofW HT_.out HW_.out (by kernel_rfl)) (fun _ _ _ h => h) (Or.inl ⟨by rfl, ?_⟩) hHeld ?_ ?_
                            rotate_left
                            · rintro w' ⟨s0, s1, s2, s3, s4, s5, s6, s7, s8, s9, s10, s11, s12, s13, s14, s15, s16, s17, s18, s19⟩
                              go_simp
                              with_reducible rfl
                            rotate_left
                            · simp only [Act.put, List.setIfInBounds_toArray, List.set_cons_zero, List.set_cons_succ, i64_w, i32_w]
                              rfl
                            refine one_ (i := 29) (N := some 93) #[true, true, true, true, true, true, true, true, true, true, true, true, true, true, true, true, true, true, true, true, true, true, true, true, true, true, true, true, true, true, true, true, false, false, false, false] rfl rfl (one_of HT_.out (by kernel_rfl)) (by decide) (fun K hK => ?_)
                            refine goes_ Tryd.func18 (by kernel_rfl) rfl #[.agg #[.int .i64 a0_0, .int .i64 a0_1, .int .i64 a0_2, .int .u8 a0_3], .int .i64 a2] (by rfl) rfl rfl (by (try simp only [List.map_toArray, List.map_cons, List.map_nil]); first | done | rfl | (simp only [List.length_drop, List.length_take]; rfl)) ?_
                            with_reducible refine (auto_Quiet.calls kj10 a0_0 a0_1 a0_2 a0_3 a2 t701 t702 t703 t704 _ ?side1 A35.out).mono ?_
                            (case side1 => exact (HGL.out.below (by repeat (first | (with_reducible first | exact HB.out | apply pA | apply pN | apply pD | refine pS ?_ GE660.out | refine pS ?_ GE673.out | refine pS ?_ GE682.out | refine pS ?_ GE690.out | refine pS ?_ GE698.out) | exact HB.out))))
                            rintro e w69 ⟨rfl, hb⟩
                            refine ⟨_, rfl, ?_⟩
                            have n0_ := Aside0.mk (Kd.R_below (by (with_reducible repeat (first | apply Kd.R_alloc | apply Kd.R_drewN | apply Kd.R_drew)); exact HO671.out) hb)
                            have n1_ := Aside0.mk (Kd.V_below (by (with_reducible repeat (first | apply Kd.V_alloc | apply Kd.V_drewN | apply Kd.V_drew)); exact HO680.out) hb)
                            have n2_ := Aside0.mk (Kd.R_below (by (with_reducible repeat (first | apply Kd.R_alloc | apply Kd.R_drewN | apply Kd.R_drew)); exact HO689.out) hb)
                            have n3_ := Aside0.mk (Kd.V_below (by (with_reducible repeat (first | apply Kd.V_alloc | apply Kd.V_drewN | apply Kd.V_drew)); exact HO697.out) hb)
                            have n4_ := Aside0.mk (blk_below (g := gb660) (o := .cells #[.int .i64 a0_0, .int .i64 a0_1, .int .i64 a0_2, .int .u8 a0_3] 23 (0, 0)) (by (with_reducible repeat (first | refine qN ?_ _ | refine qD ?_ | refine qA ?_ _)); exact BK660.out) hb)
                            have n5_ := Aside0.mk (blk_below (g := gb673) (o := .cells #[.int .i64 t665, .int .i64 t666, .int .i64 t667, .int .u8 t668] 23 (0, 0)) (by (with_reducible repeat (first | refine qN ?_ _ | refine qD ?_ | refine qA ?_ _)); exact BK673.out) hb)
                            have n6_ := Aside0.mk (blk_below (g := gb682) (o := .cells #[.int .i64 t674, .int .i64 t675, .int .i64 t676, .int .u8 t677] 23 (0, 0)) (by (with_reducible repeat (first | refine qN ?_ _ | refine qD ?_ | refine qA ?_ _)); exact BK682.out) hb)
                            have n7_ := Aside0.mk (blk_below (g := gb690) (o := .cells #[.int .i64 t683, .int .i64 t684, .int .i64 t685, .int .u8 t686] 23 (0, 0)) (by (with_reducible repeat (first | refine qN ?_ _ | refine qD ?_ | refine qA ?_ _)); exact BK690.out) hb)
                            have n8_ := Aside0.mk (blk_below (g := gb698) (o := .cells #[.int .i64 t691, .int .i64 t692, .int .i64 t693, .int .u8 t694] 23 (0, 0)) (by (with_reducible repeat (first | refine qN ?_ _ | refine qD ?_ | refine qA ?_ _)); exact BK698.out) hb)
                            have n9_ := Aside0.mk (below_step (by repeat (first | (with_reducible first | exact HB.out | apply pA | apply pN | apply pD | refine pS ?_ GE660.out | refine pS ?_ GE673.out | refine pS ?_ GE682.out | refine pS ?_ GE690.out | refine pS ?_ GE698.out) | exact HB.out)) hb)
                            clear HO671
                            clear HO680
                            clear HO689
                            clear HO697
                            clear BK660
                            clear BK673
                            clear BK682
                            clear BK690
                            clear BK698
                            clear HB
                            have HO671 := n0_
                            have HO680 := n1_
                            have HO689 := n2_
                            have HO697 := n3_
                            have BK660 := n4_
                            have BK673 := n5_
                            have BK682 := n6_
                            have BK690 := n7_
                            have BK698 := n8_
                            have HB := n9_
                            clear n0_ n1_ n2_ n3_ n4_ n5_ n6_ n7_ n8_ n9_
                            (try clear hb)
                            (try clear hb2)
                            (try clear hk)
                            (try clear hi)
                            refine hK.out _ _ ⟨(blk_cell BK673.out 0).trans rfl, (blk_cell BK673.out 1).trans rfl, (blk_cell BK673.out 2).trans rfl, (blk_cell BK673.out 3).trans rfl, (blk_cell BK682.out 0).trans rfl, (blk_cell BK682.out 1).trans rfl, (blk_cell BK682.out 2).trans rfl, (blk_cell BK682.out 3).trans rfl, (blk_cell BK690.out 0).trans rfl, (blk_cell BK690.out 1).trans rfl, (blk_cell BK690.out 2).trans rfl, (blk_cell BK690.out 3).trans rfl, (blk_cell BK698.out 0).trans rfl, (blk_cell BK698.out 1).trans rfl, (blk_cell BK698.out 2).trans rfl, (blk_cell BK698.out 3).trans rfl, (blk_cell BK660.out 0).trans rfl, (blk_cell BK660.out 1).trans rfl, (blk_cell BK660.out 2).trans rfl, (blk_cell BK660.out 3).trans rfl⟩ (fun hHeld => ?_)
                            clear hK K
                            refine norm_ (a' := ?_) ?_ ?_
                            rotate_left
                            · show Act.put _ (some 93) _ = _
                              simp only [Act.put, List.setIfInBounds_toArray, List.set_cons_zero, List.set_cons_succ, i64_w, i32_w]
                              rfl
                            refine one_ (i := 32) (N := some 96) #[true, true, true, true, true, true, true, true, true, true, true, true, true, true, true, true, true, true, true, true, true, true, true, true, true, true, true, true, true, true, true, true, true, false, false, false] rfl rfl (one_of HT_.out (by kernel_rfl)) (by decide) (fun K hK => ?_)
                            refine goes_ Tryd.func19 (by kernel_rfl) rfl #[.agg #[.int .i64 a0_0, .int .i64 a0_1, .int .i64 a0_2, .int .u8 a0_3], .int .i64 a2] (by rfl) rfl rfl (by (try simp only [List.map_toArray, List.map_cons, List.map_nil]); first | done | rfl | (simp only [List.length_drop, List.length_take]; rfl)) ?_
                            with_reducible refine (portreeveref12_Quiet.calls kj10 a0_0 a0_1 a0_2 a0_3 a2 t705 t706 t707 t708 _ A36.out).mono ?_
                            rintro e w70 ⟨rfl, hb⟩
                            refine ⟨_, rfl, ?_⟩
                            have n0_ := Aside0.mk (Kd.R_below (by (with_reducible repeat (first | apply Kd.R_alloc | apply Kd.R_drewN | apply Kd.R_drew)); exact HO671.out) hb)
                            have n1_ := Aside0.mk (Kd.V_below (by (with_reducible repeat (first | apply Kd.V_alloc | apply Kd.V_drewN | apply Kd.V_drew)); exact HO680.out) hb)
                            have n2_ := Aside0.mk (Kd.R_below (by (with_reducible repeat (first | apply Kd.R_alloc | apply Kd.R_drewN | apply Kd.R_drew)); exact HO689.out) hb)
                            have n3_ := Aside0.mk (Kd.V_below (by (with_reducible repeat (first | apply Kd.V_alloc | apply Kd.V_drewN | apply Kd.V_drew)); exact HO697.out) hb)
                            have n4_ := Aside0.mk (blk_below (g := gb660) (o := .cells #[.int .i64 a0_0, .int .i64 a0_1, .int .i64 a0_2, .int .u8 a0_3] 23 (0, 0)) (by (with_reducible repeat (first | refine qN ?_ _ | refine qD ?_ | refine qA ?_ _)); exact BK660.out) hb)
                            have n5_ := Aside0.mk (blk_below (g := gb673) (o := .cells #[.int .i64 t665, .int .i64 t666, .int .i64 t667, .int .u8 t668] 23 (0, 0)) (by (with_reducible repeat (first | refine qN ?_ _ | refine qD ?_ | refine qA ?_ _)); exact BK673.out) hb)
                            have n6_ := Aside0.mk (blk_below (g := gb682) (o := .cells #[.int .i64 t674, .int .i64 t675, .int .i64 t676, .int .u8 t677] 23 (0, 0)) (by (with_reducible repeat (first | refine qN ?_ _ | refine qD ?_ | refine qA ?_ _)); exact BK682.out) hb)
                            have n7_ := Aside0.mk (blk_below (g := gb690) (o := .cells #[.int .i64 t683, .int .i64 t684, .int .i64 t685, .int .u8 t686] 23 (0, 0)) (by (with_reducible repeat (first | refine qN ?_ _ | refine qD ?_ | refine qA ?_ _)); exact BK690.out) hb)
                            have n8_ := Aside0.mk (blk_below (g := gb698) (o := .cells #[.int .i64 t691, .int .i64 t692, .int .i64 t693, .int .u8 t694] 23 (0, 0)) (by (with_reducible repeat (first | refine qN ?_ _ | refine qD ?_ | refine qA ?_ _)); exact BK698.out) hb)
                            have n9_ := Aside0.mk (below_step (by repeat (first | (with_reducible first | exact HB.out | apply pA | apply pN | apply pD | refine pS ?_ GE660.out | refine pS ?_ GE673.out | refine pS ?_ GE682.out | refine pS ?_ GE690.out | refine pS ?_ GE698.out) | exact HB.out)) hb)
                            clear HO671
                            clear HO680
                            clear HO689
                            clear HO697
                            clear BK660
                            clear BK673
                            clear BK682
                            clear BK690
                            clear BK698
                            clear HB
                            have HO671 := n0_
                            have HO680 := n1_
                            have HO689 := n2_
                            have HO697 := n3_
                            have BK660 := n4_
                            have BK673 := n5_
                            have BK682 := n6_
                            have BK690 := n7_
                            have BK698 := n8_
                            have HB := n9_
                            clear n0_ n1_ n2_ n3_ n4_ n5_ n6_ n7_ n8_ n9_
                            (try clear hb)
                            (try clear hb2)
                            (try clear hk)
                            (try clear hi)
                            refine hK.out _ _ ⟨(blk_cell BK673.out 0).trans rfl, (blk_cell BK673.out 1).trans rfl, (blk_cell BK673.out 2).trans rfl, (blk_cell BK673.out 3).trans rfl, (blk_cell BK682.out 0).trans rfl, (blk_cell BK682.out 1).trans rfl, (blk_cell BK682.out 2).trans rfl, (blk_cell BK682.out 3).trans rfl, (blk_cell BK690.out 0).trans rfl, (blk_cell BK690.out 1).trans rfl, (blk_cell BK690.out 2).trans rfl, (blk_cell BK690.out 3).trans rfl, (blk_cell BK698.out 0).trans rfl, (blk_cell BK698.out 1).trans rfl, (blk_cell BK698.out 2).trans rfl, (blk_cell BK698.out 3).trans rfl, (blk_cell BK660.out 0).trans rfl, (blk_cell BK660.out 1).trans rfl, (blk_cell BK660.out 2).trans rfl, (blk_cell BK660.out 3).trans rfl⟩ (fun hHeld => ?_)
                            clear hK K
                            refine norm_ (a' := ?_) ?_ ?_
                            rotate_left
                            · show Act.put _ (some 96) _ = _
                              simp only [Act.put, List.setIfInBounds_toArray, List.set_cons_zero, List.set_cons_succ, i64_w, i32_w]
                              rfl
                            refine pure_ (i := 33) (N := some 97) (v := ?_) (a' := ?_) #[true, true, true, true, true, true, true, true, true, true, true, true, true, true, true, true, true, true, true, true, true, true, true, true, true, true, true, true, true, true, true, true, true, true, false, false] rfl rfl (any_of HT_.out (by kernel_rfl)) (fun _ _ _ h => h) (Or.inl ⟨by rfl, ?_⟩) ?_ ?_
                            rotate_left
                            · intro w'
                              go_simp
                              with_reducible rfl
                            rotate_left
                            · simp only [Act.put, List.setIfInBounds_toArray, List.set_cons_zero, List.set_cons_succ, i64_w, i32_w]
                              rfl
                            refine pure_ (i := 34) (N := some 98) (v := ?_) (a' := ?_) #[true, true, true, true, true, true, true, true, true, true, true, true, true, true, true, true, true, true, true, true, true, true, true, true, true, true, true, true, true, true, true, true, true, true, true, false] rfl rfl (any_of HT_.out (by kernel_rfl)) (fun _ _ _ h => h) (Or.inl ⟨by rfl, ?_⟩) ?_ ?_
                            rotate_left
                            · intro w'
                              go_simp
                              with_reducible rfl
                            rotate_left
                            · simp only [Act.put, List.setIfInBounds_toArray, List.set_cons_zero, List.set_cons_succ, i64_w, i32_w]
                              rfl
                            refine pure_ (i := 35) (N := some 6) (v := ?_) (a' := ?_) #[true, true, true, true, true, true, true, true, true, true, true, true, true, true, true, true, true, true, true, true, true, true, true, true, true, true, true, true, true, true, true, true, true, true, true, true] rfl rfl (any_of HT_.out (by kernel_rfl)) (fun _ _ _ h => h) (Or.inl ⟨by rfl, ?_⟩) ?_ ?_
                            rotate_left
                            · intro w'
                              go_simp
                              with_reducible rfl
                            rotate_left
                            · simp only [Act.put, List.setIfInBounds_toArray, List.set_cons_zero, List.set_cons_succ, i64_w, i32_w]
                              rfl
                            refine done_ (done_of HT_.out (by kernel_rfl)) ?_
                            try go_wp2
                            go_ret
                            exact ⟨by first | rfl | (simp [errW_none, errW_some] <;> rfl) | (simp [*, errW_none, errW_some] <;> rfl), by repeat (first | (with_reducible first | exact HB.out | apply pA | apply pN | apply pD | refine pS ?_ GE660.out | refine pS ?_ GE673.out | refine pS ?_ GE682.out | refine pS ?_ GE690.out | refine pS ?_ GE698.out) | exact HB.out)⟩
                          · replace c34 := Bool.eq_false_iff.mpr c34
                            subst c34
                            have H1 : (some false) = some r := by rw [if_neg (show ¬ (false = true) by decide)] at H; exact H
                            clear H
                            have H := H1
                            clear H1
                            exact absurd ((Option.some.inj H).trans hlaw_.out) (by decide)
                        · rw [if_neg c32] at H
                          have c32b0 : (t683 == t691 && (t684 == t692 && (t685 == t693 && (t686 == t694)))) = false := by simpa using c32
                          (try (have c32b1 : decide (t683 = t691 && (t684 == t692 && (t685 == t693 && (t686 == t694)))) = false := by simpa using c32))
                          (try (have c32b2 : (t683 == t691 && (t684 == t692 && (t685 == t693 && (t686 == t694)))) = false := by simpa using c32))
                          (try (have c32b3 : ¬ (t683 = t691 && (t684 == t692 && (t685 == t693 && (t686 == t694)))) := by simpa using c32))
                          clear c32
                          exact absurd ((Option.some.inj H).trans hlaw_.out) (by decide)
                      · rw [if_neg c31] at H
                        have c31b0 : (t672 == t681) = false := beq_eq_false_iff_ne.mpr c31
                        have c31b1 : (t672 != t681) = true := bne_iff_ne.mpr c31
                        exact absurd ((Option.some.inj H).trans hlaw_.out) (by decide)
                    · replace c30 := Bool.eq_false_iff.mpr c30
                      subst c30
                      have H1 : (some false) = some r := by rw [if_neg (show ¬ (false = true) by decide)] at H; exact H
                      clear H
                      have H := H1
                      clear H1
                      exact absurd ((Option.some.inj H).trans hlaw_.out) (by decide)
                  · rw [if_neg c28] at H
                    have c28b0 : (t665 == t674 && (t666 == t675 && (t667 == t676 && (t668 == t677)))) = false := by simpa using c28
                    (try (have c28b1 : decide (t665 = t674 && (t666 == t675 && (t667 == t676 && (t668 == t677)))) = false := by simpa using c28))
                    (try (have c28b2 : (t665 == t674 && (t666 == t675 && (t667 == t676 && (t668 == t677)))) = false := by simpa using c28))
                    (try (have c28b3 : ¬ (t665 = t674 && (t666 == t675 && (t667 == t676 && (t668 == t677)))) := by simpa using c28))
                    clear c28
                    exact absurd ((Option.some.inj H).trans hlaw_.out) (by decide)
                · replace c27 := Bool.eq_false_iff.mpr c27
                  subst c27
                  have H1 : (some false) = some r := by rw [if_neg (show ¬ (false = true) by decide)] at H; exact H
                  clear H
                  have H := H1
                  clear H1
                  exact absurd ((Option.some.inj H).trans hlaw_.out) (by decide)
              · replace c22 := Bool.eq_false_iff.mpr c22
                subst c22
                have H1 : (some t661) = some r := by rw [if_neg (show ¬ (false = true) by decide)] at H; exact H
                clear H
                have H := H1
                clear H1
                clear hlaw_
                obtain rfl := Option.some.inj H
                go_wp2
                go_ret
                exact ⟨by first | rfl | (simp [errW_none, errW_some] <;> rfl) | (simp [*, errW_none, errW_some] <;> rfl), by repeat (first | (with_reducible first | exact HB.out | apply pA | apply pN | apply pD | refine pS ?_ GE660.out) | exact HB.out)⟩

end Go.Proofs.YtoenogjedmnnlaaDoor.Q

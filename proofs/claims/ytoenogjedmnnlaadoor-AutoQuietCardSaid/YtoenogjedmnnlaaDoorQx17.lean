-- written by this session's own program (wip/tools/myprint.py), over the kit's print
import Derived.Test.YtoenogjedmnnlaaDoorQx0
import Derived.Test.YtoenogjedmnnlaaDoorQx1
import Derived.Test.YtoenogjedmnnlaaDoorQx5
import Derived.Test.YtoenogjedmnnlaaDoorQx6
namespace Go.Proofs.YtoenogjedmnnlaaDoor.Q
open Go.RowKit Go.Proofs.YtoenogjedmnnlaaDoorW.PrintWords Go.Proofs.YtoenogjedmnnlaaDoorW.PrintLast Go.Proofs.YtoenogjedmnnlaaDoorW.PrintMore
open Go.Proofs.YtoenogjedmnnlaaDoorV Go.Proofs.YtoenogjedmnnlaaDoorG
attribute [local go_sem] max2_int min2_int max_two min_two max_three min_three max_four min_four   -- for this text's walks alone
set_option linter.unusedVariables false
set_option linter.unusedSimpArgs false

attribute [local go_sem high] eqA23
/-! ### portreevelaw12_AutoQuiet: function 7 -/
def portreevelaw12_AutoQuiet.l0 : Nat → Int → Int → Bool → Int → Int → Int → Int → Int → Int → Int → Int → Int → Int → Int → Int → Int → Option (Bool)
  | 0, _, _, _, _, _, _, _, _, _, _, _, _, _, _, _, _ => none
  | k + 1, x1, x2, x7, x10, x778000, x778001, x778002, x778003, x785000, x785001, x785002, x785003, x786000, x786001, x786002, x786003 => if x10 < (wrap64 (Int.tmod x1 30)) then ((auto_Tick.f x786000 x786001 x786002 x786003).bind fun bt786 => (portreevelaw12_AutoQuiet.l0 k x1 x2 x7 (wrap64 (x10 + 1)) x778000 x778001 x778002 x778003 x785000 x785001 x785002 x785003 bt786.1 bt786.2.1 bt786.2.2.1 bt786.2.2.2.1)) else (if x7 = true then (if (x785000 == x786000 && (x785001 == x786001 && (x785002 == x786002 && (x785003 == x786003)))) = true then ((auto_Quiet.f k x785000 x785001 x785002 x785003 (wrap64 (Int.tmod x2 30))).bind fun bt794 => ((auto_Quiet.f k x778000 x778001 x778002 x778003 (wrap64 ((wrap64 (Int.tmod x1 30)) + (wrap64 (Int.tmod x2 30))))).bind fun bt798 => (if (bt794.1 == bt798.1 && (bt794.2.1 == bt798.2.1 && (bt794.2.2.1 == bt798.2.2.1 && (bt794.2.2.2 == bt798.2.2.2)))) = true then ((auto_Quiet.f k x778000 x778001 x778002 x778003 0).bind fun bt802 => (if (bt802.1 == x778000 && (bt802.2.1 == x778001 && (bt802.2.2.1 == x778002 && (bt802.2.2.2 == x778003)))) = true then ((auto_Quiet.f k x778000 x778001 x778002 x778003 (-5)).bind fun bt806 => (some (bt806.1 == x778000 && (bt806.2.1 == x778001 && (bt806.2.2.1 == x778002 && (bt806.2.2.2 == x778003)))))) else (some false))) else (some false)))) else (some false)) else (some false))
def portreevelaw12_AutoQuiet.f (k : Nat) (a0_0 : Int) (a0_1 : Int) (a0_2 : Int) (a0_3 : Int) (a1 : Int) (a2 : Int) : Option (Bool) := (portreevelaw12_shown.f k).bind fun t778 => ((portreeveref12_Right.f k a0_0 a0_1 a0_2 a0_3).bind fun t779 => (if t779 = true then ((auto_Quiet.f k a0_0 a0_1 a0_2 a0_3 (wrap64 (Int.tmod a1 30))).bind fun bt780 => (portreevelaw12_AutoQuiet.l0 k a1 a2 t778 0 a0_0 a0_1 a0_2 a0_3 bt780.1 bt780.2.1 bt780.2.2.1 bt780.2.2.2 a0_0 a0_1 a0_2 a0_3)) else (some t778)))
theorem portreevelaw12_AutoQuiet.mono_l : ∀ k, (∀ y0 y1 y2 y3 y4 y5 y6 y7 y8 y9 y10 y11 y12 y13 y14 y15, LeO (portreevelaw12_AutoQuiet.l0 k y0 y1 y2 y3 y4 y5 y6 y7 y8 y9 y10 y11 y12 y13 y14 y15) (portreevelaw12_AutoQuiet.l0 (k + 1) y0 y1 y2 y3 y4 y5 y6 y7 y8 y9 y10 y11 y12 y13 y14 y15))
  | 0 => fun _ _ _ _ _ _ _ _ _ _ _ _ _ _ _ _ r h => by simp [portreevelaw12_AutoQuiet.l0] at h
  | k + 1 => by
    have ih0 := portreevelaw12_AutoQuiet.mono_l k
    · intro y0 y1 y2 y3 y4 y5 y6 y7 y8 y9 y10 y11 y12 y13 y14 y15
      unfold portreevelaw12_AutoQuiet.l0
      repeat' first
      | (with_reducible exact ih0 _ _ _ _ _ _ _ _ _ _ _ _ _ _ _ _)
      | (with_reducible exact auto_Quiet.mono _ _ _ _ _ _)
      | (with_reducible exact portreevelaw12_shown.mono _)
      | (with_reducible exact portreeveref12_Right.mono _ _ _ _ _)
      | (with_reducible exact LeO.refl _)
      | (with_reducible exact LeO.none _)
      | (with_reducible refine LeO.ite ?_ ?_)
      | (with_reducible refine LeO.bind ?_ (fun _ => ?_))
      | exact ih0 _ _ _ _ _ _ _ _ _ _ _ _ _ _ _ _
      | exact auto_Quiet.mono _ _ _ _ _ _
      | exact portreevelaw12_shown.mono _
      | exact portreeveref12_Right.mono _ _ _ _ _
      | exact LeO.none _
      | refine LeO.ite ?_ ?_
      | refine LeO.bind ?_ (fun _ => ?_)
theorem portreevelaw12_AutoQuiet.mono : ∀ a0 a1 a2 a3 a4 a5 k, LeO (portreevelaw12_AutoQuiet.f k a0 a1 a2 a3 a4 a5) (portreevelaw12_AutoQuiet.f (k + 1) a0 a1 a2 a3 a4 a5) := by
  intro a0 a1 a2 a3 a4 a5 k
  have ih0 := portreevelaw12_AutoQuiet.mono_l k
  unfold portreevelaw12_AutoQuiet.f
  repeat' first
      | (with_reducible exact ih0 _ _ _ _ _ _ _ _ _ _ _ _ _ _ _ _)
      | (with_reducible exact auto_Quiet.mono _ _ _ _ _ _)
      | (with_reducible exact portreevelaw12_shown.mono _)
      | (with_reducible exact portreeveref12_Right.mono _ _ _ _ _)
      | (with_reducible exact LeO.refl _)
      | (with_reducible exact LeO.none _)
      | (with_reducible refine LeO.ite ?_ ?_)
      | (with_reducible refine LeO.bind ?_ (fun _ => ?_))
      | exact ih0 _ _ _ _ _ _ _ _ _ _ _ _ _ _ _ _
      | exact auto_Quiet.mono _ _ _ _ _ _
      | exact portreevelaw12_shown.mono _
      | exact portreeveref12_Right.mono _ _ _ _ _
      | exact LeO.none _
      | refine LeO.ite ?_ ?_
      | refine LeO.bind ?_ (fun _ => ?_)
def portreevelaw12_AutoQuiet.T11 : Bool × List (List Nat × List Nat) := (true, [([], []), ([0], [0]), ([1], [1]), ([1], [1]), ([2, 3, 1], [1, 2, 3]), ([1, 4], [1, 4]), ([5, 1], [5]), ([6], [6]), ([6], [6]), ([8, 6], [6, 8]), ([9, 6], [6, 9]), ([7, 10, 6, 6], [6, 7, 10]), ([6], [6]), ([6], [6]), ([13, 6], [6, 13]), ([14, 6], [6, 14]), ([6], [6]), ([16, 6], [6, 16]), ([17, 6], [6, 17]), ([15, 18, 6], [6, 15, 18]), ([12, 19, 11, 6], [6, 12, 19]), ([11, 20, 6], [6, 11, 20]), ([6, 21], [6, 21]), ([22, 20], [22]), ([23], [23]), ([24, 23, 23], [23, 24]), ([23], [23]), ([25, 26, 23], [23, 25, 26]), ([23, 27], [23, 27]), ([28, 25], [28]), ([29], [29]), ([30, 29, 29], [29, 30]), ([29], [29]), ([31, 32, 29], [29, 31, 32]), ([29, 33], [29, 33]), ([34, 31, 0, 1, 2, 3, 4, 5, 6, 7, 8, 9, 10, 11, 12, 13, 14, 15, 16, 17, 18, 19, 20, 21, 22, 23, 24, 25, 26, 27, 28, 29, 30, 31, 32, 33, 34], [34])])
def portreevelaw12_AutoQuiet.B11 : List Nat := [0, 1, 3, 3, 15, 31, 63, 127, 127, 383, 895, 2047, 127, 127, 8319, 24703, 127, 65663, 196735, 516223, 1048575, 2097151, 4194303, 8388607, 16777215, 33554431, 16777215, 134217727, 268435455, 536870911, 1073741823, 2147483647, 1073741823, 8589934591, 17179869183, 34359738367]
theorem portreevelaw12_AutoQuiet.tab11 : rtab .any (opsOf Tryd.f7 11) = portreevelaw12_AutoQuiet.T11 := by kernel_rfl
theorem portreevelaw12_AutoQuiet.bits11 : waitsOk portreevelaw12_AutoQuiet.T11.2 portreevelaw12_AutoQuiet.B11 = true := by kernel_rfl
set_option maxHeartbeats 8000000 in
set_option maxRecDepth 100000 in
theorem portreevelaw12_AutoQuiet.calls (k : Nat) (a0_0 : Int) (a0_1 : Int) (a0_2 : Int) (a0_3 : Int) (a1 : Int) (a2 : Int) (r : Bool) (w : World) (hlaw_ : Aside0 (r = true)) (hgl : Gl w) (h : portreevelaw12_AutoQuiet.f k a0_0 a0_1 a0_2 a0_3 a1 a2 = some r) :
    Calls Tryd.prog 7 #[.agg #[.int .i64 a0_0, .int .i64 a0_1, .int .i64 a0_2, .int .u8 a0_3], .int .u8 a1, .int .u8 a2] w fun e w' => e = .returned (.bool r) ∧ Below w.heap.size w w' := by
  have hu23 := Tryd.underlying23
  have HB := Aside0.mk (Below.refl w.heap.size w)
  have HGL := Aside0.mk hgl
  clear hgl
  have H : ((portreevelaw12_shown.f k).bind fun t778 => ((portreeveref12_Right.f k a0_0 a0_1 a0_2 a0_3).bind fun t779 => (if t779 = true then ((auto_Quiet.f k a0_0 a0_1 a0_2 a0_3 (wrap64 (Int.tmod a1 30))).bind fun bt780 => (portreevelaw12_AutoQuiet.l0 k a1 a2 t778 0 a0_0 a0_1 a0_2 a0_3 bt780.1 bt780.2.1 bt780.2.2.1 bt780.2.2.2 a0_0 a0_1 a0_2 a0_3)) else (some t778)))) = some r := h
  clear h
  replace H := Option.bind_eq_some_iff.mp H
  obtain ⟨t778, A40, H⟩ := H
  replace H : ((portreeveref12_Right.f k a0_0 a0_1 a0_2 a0_3).bind fun t779 => (if t779 = true then ((auto_Quiet.f k a0_0 a0_1 a0_2 a0_3 (wrap64 (Int.tmod a1 30))).bind fun bt780 => (portreevelaw12_AutoQuiet.l0 k a1 a2 t778 0 a0_0 a0_1 a0_2 a0_3 bt780.1 bt780.2.1 bt780.2.2.1 bt780.2.2.2 a0_0 a0_1 a0_2 a0_3)) else (some t778))) = some r := H
  have A4 := Aside0.mk A40
  clear A40
  replace H := Option.bind_eq_some_iff.mp H
  obtain ⟨t779, A50, H⟩ := H
  replace H : (if t779 = true then ((auto_Quiet.f k a0_0 a0_1 a0_2 a0_3 (wrap64 (Int.tmod a1 30))).bind fun bt780 => (portreevelaw12_AutoQuiet.l0 k a1 a2 t778 0 a0_0 a0_1 a0_2 a0_3 bt780.1 bt780.2.1 bt780.2.2.1 bt780.2.2.2 a0_0 a0_1 a0_2 a0_3)) else (some t778)) = some r := H
  have A5 := Aside0.mk A50
  clear A50
  by_cases c6 : t779 = true
  · subst c6
    have H1 : ((auto_Quiet.f k a0_0 a0_1 a0_2 a0_3 (wrap64 (Int.tmod a1 30))).bind fun bt780 => (portreevelaw12_AutoQuiet.l0 k a1 a2 t778 0 a0_0 a0_1 a0_2 a0_3 bt780.1 bt780.2.1 bt780.2.2.1 bt780.2.2.2 a0_0 a0_1 a0_2 a0_3)) = some r := by rw [if_pos rfl] at H; exact H
    clear H
    have H := H1
    clear H1
    replace H := Option.bind_eq_some_iff.mp H
    obtain ⟨⟨t780, t781, t782, t783⟩, A70, H⟩ := H
    replace H : (portreevelaw12_AutoQuiet.l0 k a1 a2 t778 0 a0_0 a0_1 a0_2 a0_3 t780 t781 t782 t783 a0_0 a0_1 a0_2 a0_3) = some r := H
    have A7 := Aside0.mk A70
    clear A70
    have H' := Aside0.mk H
    clear H
    go_enter Tryd.func7, Tryd.ntmps7
    go_wp2_with (first | ((with_reducible refine gate_dst (N := 3) rfl ?_); refine box_event ?hg (N := 3) ?hd (cs := #[.int .i64 a0_0, .int .i64 a0_1, .int .i64 a0_2, .int .u8 a0_3]) (t := 23) ?hr ?_; (case hd => rfl); (case hg => rfl); (case hr => first | (go_simp; done) | (go_simp; rfl)); intro gb777 hg w8 hbox hb; have n0_ := Aside0.mk (below_step (by repeat (first | (with_reducible first | exact HB.out | apply pA | apply pN | apply pD) | exact HB.out)) hb); have n1_ := Aside0.mk (hbox); have n2_ := Aside0.mk ((by rw [hg]; exact (below_size (by repeat (first | (with_reducible first | exact HB.out | apply pA | apply pN | apply pD) | exact HB.out))) : w.heap.size ≤ gb777)); have n3_ := Aside0.mk ((by rw [hg]; exact (below_size (by repeat (first | (with_reducible first | exact HB.out | apply pA | apply pN | apply pD) | exact HB.out))) : w.heap.size ≤ gb777)); clear HB; have HB := n0_; have BK777 := n1_; have GW777 := n2_; have GE777 := n3_; clear n0_ n1_ n2_ n3_; clear hb hbox hg) | ((with_reducible refine gate_callee (f := 9) rfl ?_); refine goesL_ (some 13) rfl rfl Tryd.func9 (by kernel_rfl) rfl #[] rfl (by (try simp only [List.map_toArray, List.map_cons, List.map_nil]); first | done | rfl | (simp only [List.length_drop, List.length_take]; rfl)) ?_; (with_reducible refine (portreevelaw12_shown.calls k  t778 _ ?side1 A4.out).mono ?_); (case side1 => exact (HGL.out.below (by repeat (first | (with_reducible first | exact HB.out | apply pA | apply pN | apply pD | refine pS ?_ GE777.out) | exact HB.out)))); rintro e w9 ⟨rfl, hb⟩; refine ⟨_, rfl, ?_⟩; have n0_ := Aside0.mk (blk_below (g := gb777) (o := .cells #[.int .i64 a0_0, .int .i64 a0_1, .int .i64 a0_2, .int .u8 a0_3] 23 (0, 0)) (by (with_reducible repeat (first | refine qN ?_ _ | refine qD ?_ | refine qA ?_ _)); exact BK777.out) hb); have n1_ := Aside0.mk (below_step (by repeat (first | (with_reducible first | exact HB.out | apply pA | apply pN | apply pD | refine pS ?_ GE777.out) | exact HB.out)) hb); clear BK777; clear HB; have BK777 := n0_; have HB := n1_; clear n0_ n1_; (try clear hb); (try clear hb2); (try clear hk); (try clear hi); have hcz10_0 : w9.cell? ⟨gb777, 0, none⟩ = some (.int .i64 a0_0) := (blk_cell BK777.out 0).trans rfl; have hcz10_1 : w9.cell? ⟨gb777, 1, none⟩ = some (.int .i64 a0_1) := (blk_cell BK777.out 1).trans rfl; have hcz10_2 : w9.cell? ⟨gb777, 2, none⟩ = some (.int .i64 a0_2) := (blk_cell BK777.out 2).trans rfl; have hcz10_3 : w9.cell? ⟨gb777, 3, none⟩ = some (.int .u8 a0_3) := (blk_cell BK777.out 3).trans rfl; have hfz10_0 := blk_frozen BK777.out 0; have hfz10_1 := blk_frozen BK777.out 1; have hfz10_2 := blk_frozen BK777.out 2; have hfz10_3 := blk_frozen BK777.out 3) | ((with_reducible refine gate_callee (f := 10) rfl ?_); refine goesL_ (some 15) rfl rfl Tryd.func10 (by kernel_rfl) rfl #[.agg #[.int .i64 a0_0, .int .i64 a0_1, .int .i64 a0_2, .int .u8 a0_3]] rfl (by (try simp only [List.map_toArray, List.map_cons, List.map_nil]); first | done | rfl | (simp only [List.length_drop, List.length_take]; rfl)) ?_; (with_reducible refine (portreeveref12_Right.calls k a0_0 a0_1 a0_2 a0_3 true _ A5.out).mono ?_); rintro e w11 ⟨rfl, hb⟩; refine ⟨_, rfl, ?_⟩; have n0_ := Aside0.mk (blk_below (g := gb777) (o := .cells #[.int .i64 a0_0, .int .i64 a0_1, .int .i64 a0_2, .int .u8 a0_3] 23 (0, 0)) (by (with_reducible repeat (first | refine qN ?_ _ | refine qD ?_ | refine qA ?_ _)); exact BK777.out) hb); have n1_ := Aside0.mk (below_step (by repeat (first | (with_reducible first | exact HB.out | apply pA | apply pN | apply pD | refine pS ?_ GE777.out) | exact HB.out)) hb); clear BK777; clear HB; have BK777 := n0_; have HB := n1_; clear n0_ n1_; (try clear hb); (try clear hb2); (try clear hk); (try clear hi); have hcz12_0 : w11.cell? ⟨gb777, 0, none⟩ = some (.int .i64 a0_0) := (blk_cell BK777.out 0).trans rfl; have hcz12_1 : w11.cell? ⟨gb777, 1, none⟩ = some (.int .i64 a0_1) := (blk_cell BK777.out 1).trans rfl; have hcz12_2 : w11.cell? ⟨gb777, 2, none⟩ = some (.int .i64 a0_2) := (blk_cell BK777.out 2).trans rfl; have hcz12_3 : w11.cell? ⟨gb777, 3, none⟩ = some (.int .u8 a0_3) := (blk_cell BK777.out 3).trans rfl; have hfz12_0 := blk_frozen BK777.out 0; have hfz12_1 := blk_frozen BK777.out 1; have hfz12_2 := blk_frozen BK777.out 2; have hfz12_3 := blk_frozen BK777.out 3) | ((with_reducible refine gate_callee (f := 18) rfl ?_); refine goesL_ (some 22) rfl rfl Tryd.func18 (by kernel_rfl) rfl #[.agg #[.int .i64 a0_0, .int .i64 a0_1, .int .i64 a0_2, .int .u8 a0_3], .int .i64 (wrap64 (Int.tmod a1 30))] rfl (by (try simp only [List.map_toArray, List.map_cons, List.map_nil]); first | done | rfl | (simp only [List.length_drop, List.length_take]; rfl)) ?_; (with_reducible refine (auto_Quiet.calls k a0_0 a0_1 a0_2 a0_3 (wrap64 (Int.tmod a1 30)) t780 t781 t782 t783 _ ?side1 A7.out).mono ?_); (case side1 => exact (HGL.out.below (by repeat (first | (with_reducible first | exact HB.out | apply pA | apply pN | apply pD | refine pS ?_ GE777.out) | exact HB.out)))); rintro e w13 ⟨rfl, hb⟩; refine ⟨_, rfl, ?_⟩; have n0_ := Aside0.mk (blk_below (g := gb777) (o := .cells #[.int .i64 a0_0, .int .i64 a0_1, .int .i64 a0_2, .int .u8 a0_3] 23 (0, 0)) (by (with_reducible repeat (first | refine qN ?_ _ | refine qD ?_ | refine qA ?_ _)); exact BK777.out) hb); have n1_ := Aside0.mk (below_step (by repeat (first | (with_reducible first | exact HB.out | apply pA | apply pN | apply pD | refine pS ?_ GE777.out) | exact HB.out)) hb); clear BK777; clear HB; have BK777 := n0_; have HB := n1_; clear n0_ n1_; (try clear hb); (try clear hb2); (try clear hk); (try clear hi)) | ((with_reducible refine gate_dst (N := 8) rfl ?_); refine box_event ?hg (N := 8) ?hd (cs := #[.int .i64 0, .int .i64 0, .int .i64 0, .int .u8 0]) (t := 23) ?hr ?_; (case hd => rfl); (case hg => rfl); (case hr => first | (go_simp; done) | (go_simp; rfl)); intro gb784 hg w14 hbox hb; have n0_ := Aside0.mk (blk_below (g := gb777) (o := .cells #[.int .i64 a0_0, .int .i64 a0_1, .int .i64 a0_2, .int .u8 a0_3] 23 (0, 0)) (by (with_reducible repeat (first | refine qN ?_ _ | refine qD ?_ | refine qA ?_ _)); exact BK777.out) hb); have n1_ := Aside0.mk (below_step (by repeat (first | (with_reducible first | exact HB.out | apply pA | apply pN | apply pD | refine pS ?_ GE777.out) | exact HB.out)) hb); have n2_ := Aside0.mk (hbox); have n3_ := Aside0.mk ((by rw [hg]; exact (below_size (by repeat (first | (with_reducible first | exact HB.out | apply pA | apply pN | apply pD | refine pS ?_ GE777.out) | exact HB.out))) : w.heap.size ≤ gb784)); have n4_ := Aside0.mk ((by rw [hg]; exact (below_size (by repeat (first | (with_reducible first | exact HB.out | apply pA | apply pN | apply pD | refine pS ?_ GE777.out) | exact HB.out))) : w.heap.size ≤ gb784)); have n5_ := Aside0.mk ((by rw [hg]; exact Nat.ne_of_lt (blk_lt (g := gb777) (o := .cells #[.int .i64 a0_0, .int .i64 a0_1, .int .i64 a0_2, .int .u8 a0_3] 23 (0, 0)) (by (with_reducible repeat (first | refine qN ?_ _ | refine qD ?_ | refine qA ?_ _)); exact BK777.out)) : gb777 ≠ gb784)); have n6_ := Aside0.mk ((by rw [hg]; exact Nat.ne_of_gt (blk_lt (g := gb777) (o := .cells #[.int .i64 a0_0, .int .i64 a0_1, .int .i64 a0_2, .int .u8 a0_3] 23 (0, 0)) (by (with_reducible repeat (first | refine qN ?_ _ | refine qD ?_ | refine qA ?_ _)); exact BK777.out)) : gb784 ≠ gb777)); clear BK777; clear HB; have BK777 := n0_; have HB := n1_; have BK784 := n2_; have GW784 := n3_; have GE784 := n4_; have NB777_784 := n5_; have NB784_777 := n6_; clear n0_ n1_ n2_ n3_ n4_ n5_ n6_; clear hb hbox hg; have hnb15 := NB784_777.out; have hnc15 := NB777_784.out; have hcz16_0 : w14.cell? ⟨gb784, 0, none⟩ = some (.int .i64 0) := (blk_cell BK784.out 0).trans rfl; have hcz16_1 : w14.cell? ⟨gb784, 1, none⟩ = some (.int .i64 0) := (blk_cell BK784.out 1).trans rfl; have hcz16_2 : w14.cell? ⟨gb784, 2, none⟩ = some (.int .i64 0) := (blk_cell BK784.out 2).trans rfl; have hcz16_3 : w14.cell? ⟨gb784, 3, none⟩ = some (.int .u8 0) := (blk_cell BK784.out 3).trans rfl; have hfz16_0 := blk_frozen BK784.out 0; have hfz16_1 := blk_frozen BK784.out 1; have hfz16_2 := blk_frozen BK784.out 2; have hfz16_3 := blk_frozen BK784.out 3; have hcz17_0 : w14.cell? ⟨gb777, 0, none⟩ = some (.int .i64 a0_0) := (blk_cell BK777.out 0).trans rfl; have hcz17_1 : w14.cell? ⟨gb777, 1, none⟩ = some (.int .i64 a0_1) := (blk_cell BK777.out 1).trans rfl; have hcz17_2 : w14.cell? ⟨gb777, 2, none⟩ = some (.int .i64 a0_2) := (blk_cell BK777.out 2).trans rfl; have hcz17_3 : w14.cell? ⟨gb777, 3, none⟩ = some (.int .u8 a0_3) := (blk_cell BK777.out 3).trans rfl; have hfz17_0 := blk_frozen BK777.out 0; have hfz17_1 := blk_frozen BK777.out 1; have hfz17_2 := blk_frozen BK777.out 2; have hfz17_3 := blk_frozen BK777.out 3) | ((with_reducible refine gate_dst (N := 9) rfl ?_); refine box_event ?hg (N := 9) ?hd (cs := #[.int .i64 0, .int .i64 0, .int .i64 0, .int .u8 0]) (t := 23) ?hr ?_; (case hd => rfl); (case hg => rfl); (case hr => first | (go_simp; done) | (go_simp; rfl)); intro gb785 hg w18 hbox hb; have n0_ := Aside0.mk (blk_below (g := gb777) (o := .cells #[.int .i64 a0_0, .int .i64 a0_1, .int .i64 a0_2, .int .u8 a0_3] 23 (0, 0)) (by (with_reducible repeat (first | refine qN ?_ _ | refine qD ?_ | refine qA ?_ _)); refine blk_far ?_ NB777_784.out _; (with_reducible repeat (first | refine qN ?_ _ | refine qD ?_ | refine qA ?_ _)); refine blk_far ?_ NB777_784.out _; (with_reducible repeat (first | refine qN ?_ _ | refine qD ?_ | refine qA ?_ _)); refine blk_far ?_ NB777_784.out _; (with_reducible repeat (first | refine qN ?_ _ | refine qD ?_ | refine qA ?_ _)); refine blk_far ?_ NB777_784.out _; (with_reducible repeat (first | refine qN ?_ _ | refine qD ?_ | refine qA ?_ _)); exact BK777.out) hb); have n1_ := Aside0.mk (blk_below (g := gb784) (o := .cells #[.int .i64 t780, .int .i64 t781, .int .i64 t782, .int .u8 t783] 23 (0, 0)) (by (with_reducible repeat (first | refine qN ?_ _ | refine qD ?_ | refine qA ?_ _)); refine blk_put (cs := #[.int .i64 t780, .int .i64 t781, .int .i64 t782, .int .u8 0]) ?_ 3 _ rfl; (with_reducible repeat (first | refine qN ?_ _ | refine qD ?_ | refine qA ?_ _)); refine blk_put (cs := #[.int .i64 t780, .int .i64 t781, .int .i64 0, .int .u8 0]) ?_ 2 _ rfl; (with_reducible repeat (first | refine qN ?_ _ | refine qD ?_ | refine qA ?_ _)); refine blk_put (cs := #[.int .i64 t780, .int .i64 0, .int .i64 0, .int .u8 0]) ?_ 1 _ rfl; (with_reducible repeat (first | refine qN ?_ _ | refine qD ?_ | refine qA ?_ _)); refine blk_put (cs := #[.int .i64 0, .int .i64 0, .int .i64 0, .int .u8 0]) ?_ 0 _ rfl; (with_reducible repeat (first | refine qN ?_ _ | refine qD ?_ | refine qA ?_ _)); exact BK784.out) hb); have n2_ := Aside0.mk (below_step (by repeat (first | (with_reducible first | exact HB.out | apply pA | apply pN | apply pD | refine pS ?_ GE777.out | refine pS ?_ GE784.out) | exact HB.out)) hb); have n3_ := Aside0.mk (hbox); have n4_ := Aside0.mk ((by rw [hg]; exact (below_size (by repeat (first | (with_reducible first | exact HB.out | apply pA | apply pN | apply pD | refine pS ?_ GE777.out | refine pS ?_ GE784.out) | exact HB.out))) : w.heap.size ≤ gb785)); have n5_ := Aside0.mk ((by rw [hg]; exact (below_size (by repeat (first | (with_reducible first | exact HB.out | apply pA | apply pN | apply pD | refine pS ?_ GE777.out | refine pS ?_ GE784.out) | exact HB.out))) : w.heap.size ≤ gb785)); have n6_ := Aside0.mk ((by rw [hg]; exact Nat.ne_of_lt (blk_lt (g := gb777) (o := .cells #[.int .i64 a0_0, .int .i64 a0_1, .int .i64 a0_2, .int .u8 a0_3] 23 (0, 0)) (by (with_reducible repeat (first | refine qN ?_ _ | refine qD ?_ | refine qA ?_ _)); refine blk_far ?_ NB777_784.out _; (with_reducible repeat (first | refine qN ?_ _ | refine qD ?_ | refine qA ?_ _)); refine blk_far ?_ NB777_784.out _; (with_reducible repeat (first | refine qN ?_ _ | refine qD ?_ | refine qA ?_ _)); refine blk_far ?_ NB777_784.out _; (with_reducible repeat (first | refine qN ?_ _ | refine qD ?_ | refine qA ?_ _)); refine blk_far ?_ NB777_784.out _; (with_reducible repeat (first | refine qN ?_ _ | refine qD ?_ | refine qA ?_ _)); exact BK777.out)) : gb777 ≠ gb785)); have n7_ := Aside0.mk ((by rw [hg]; exact Nat.ne_of_gt (blk_lt (g := gb777) (o := .cells #[.int .i64 a0_0, .int .i64 a0_1, .int .i64 a0_2, .int .u8 a0_3] 23 (0, 0)) (by (with_reducible repeat (first | refine qN ?_ _ | refine qD ?_ | refine qA ?_ _)); refine blk_far ?_ NB777_784.out _; (with_reducible repeat (first | refine qN ?_ _ | refine qD ?_ | refine qA ?_ _)); refine blk_far ?_ NB777_784.out _; (with_reducible repeat (first | refine qN ?_ _ | refine qD ?_ | refine qA ?_ _)); refine blk_far ?_ NB777_784.out _; (with_reducible repeat (first | refine qN ?_ _ | refine qD ?_ | refine qA ?_ _)); refine blk_far ?_ NB777_784.out _; (with_reducible repeat (first | refine qN ?_ _ | refine qD ?_ | refine qA ?_ _)); exact BK777.out)) : gb785 ≠ gb777)); have n8_ := Aside0.mk ((by rw [hg]; exact Nat.ne_of_lt (blk_lt (g := gb784) (o := .cells #[.int .i64 t780, .int .i64 t781, .int .i64 t782, .int .u8 t783] 23 (0, 0)) (by (with_reducible repeat (first | refine qN ?_ _ | refine qD ?_ | refine qA ?_ _)); refine blk_put (cs := #[.int .i64 t780, .int .i64 t781, .int .i64 t782, .int .u8 0]) ?_ 3 _ rfl; (with_reducible repeat (first | refine qN ?_ _ | refine qD ?_ | refine qA ?_ _)); refine blk_put (cs := #[.int .i64 t780, .int .i64 t781, .int .i64 0, .int .u8 0]) ?_ 2 _ rfl; (with_reducible repeat (first | refine qN ?_ _ | refine qD ?_ | refine qA ?_ _)); refine blk_put (cs := #[.int .i64 t780, .int .i64 0, .int .i64 0, .int .u8 0]) ?_ 1 _ rfl; (with_reducible repeat (first | refine qN ?_ _ | refine qD ?_ | refine qA ?_ _)); refine blk_put (cs := #[.int .i64 0, .int .i64 0, .int .i64 0, .int .u8 0]) ?_ 0 _ rfl; (with_reducible repeat (first | refine qN ?_ _ | refine qD ?_ | refine qA ?_ _)); exact BK784.out)) : gb784 ≠ gb785)); have n9_ := Aside0.mk ((by rw [hg]; exact Nat.ne_of_gt (blk_lt (g := gb784) (o := .cells #[.int .i64 t780, .int .i64 t781, .int .i64 t782, .int .u8 t783] 23 (0, 0)) (by (with_reducible repeat (first | refine qN ?_ _ | refine qD ?_ | refine qA ?_ _)); refine blk_put (cs := #[.int .i64 t780, .int .i64 t781, .int .i64 t782, .int .u8 0]) ?_ 3 _ rfl; (with_reducible repeat (first | refine qN ?_ _ | refine qD ?_ | refine qA ?_ _)); refine blk_put (cs := #[.int .i64 t780, .int .i64 t781, .int .i64 0, .int .u8 0]) ?_ 2 _ rfl; (with_reducible repeat (first | refine qN ?_ _ | refine qD ?_ | refine qA ?_ _)); refine blk_put (cs := #[.int .i64 t780, .int .i64 0, .int .i64 0, .int .u8 0]) ?_ 1 _ rfl; (with_reducible repeat (first | refine qN ?_ _ | refine qD ?_ | refine qA ?_ _)); refine blk_put (cs := #[.int .i64 0, .int .i64 0, .int .i64 0, .int .u8 0]) ?_ 0 _ rfl; (with_reducible repeat (first | refine qN ?_ _ | refine qD ?_ | refine qA ?_ _)); exact BK784.out)) : gb785 ≠ gb784)); clear BK777; clear BK784; clear HB; have BK777 := n0_; have BK784 := n1_; have HB := n2_; have BK785 := n3_; have GW785 := n4_; have GE785 := n5_; have NB777_785 := n6_; have NB785_777 := n7_; have NB784_785 := n8_; have NB785_784 := n9_; clear n0_ n1_ n2_ n3_ n4_ n5_ n6_ n7_ n8_ n9_; clear hb hbox hg; have hnb19 := NB785_777.out; have hnc19 := NB777_785.out; have hnb20 := NB785_784.out; have hnc20 := NB784_785.out; have hcz21_0 : w18.cell? ⟨gb785, 0, none⟩ = some (.int .i64 0) := (blk_cell BK785.out 0).trans rfl; have hcz21_1 : w18.cell? ⟨gb785, 1, none⟩ = some (.int .i64 0) := (blk_cell BK785.out 1).trans rfl; have hcz21_2 : w18.cell? ⟨gb785, 2, none⟩ = some (.int .i64 0) := (blk_cell BK785.out 2).trans rfl; have hcz21_3 : w18.cell? ⟨gb785, 3, none⟩ = some (.int .u8 0) := (blk_cell BK785.out 3).trans rfl; have hfz21_0 := blk_frozen BK785.out 0; have hfz21_1 := blk_frozen BK785.out 1; have hfz21_2 := blk_frozen BK785.out 2; have hfz21_3 := blk_frozen BK785.out 3))
    go_loopg [10] k (fun kq v10 w' => ∃ (x10_1 : Int) (x786000_1 : Int) (x786001_1 : Int) (x786002_1 : Int) (x786003_1 : Int), v10 = .int .i64 x10_1 ∧ Aside0 (portreevelaw12_AutoQuiet.l0 kq a1 a2 t778 x10_1 a0_0 a0_1 a0_2 a0_3 t780 t781 t782 t783 x786000_1 x786001_1 x786002_1 x786003_1 = some r) ∧ Aside0 (kq ≤ k) ∧ Aside0 (w'.heap[gb777]? = some (.cells #[.int .i64 a0_0, .int .i64 a0_1, .int .i64 a0_2, .int .u8 a0_3] 23 (0, 0))) ∧ Aside0 (w'.heap[gb784]? = some (.cells #[.int .i64 t780, .int .i64 t781, .int .i64 t782, .int .u8 t783] 23 (0, 0))) ∧ Aside0 (w'.heap[gb785]? = some (.cells #[.int .i64 x786000_1, .int .i64 x786001_1, .int .i64 x786002_1, .int .u8 x786003_1] 23 (0, 0))) ∧ Aside0 (Below w.heap.size w w'))
    case atStart => exact ⟨(0), (a0_0), (a0_1), (a0_2), (a0_3), (by first | rfl | (simp; done) | (simp [*]; done)), H', ⟨Nat.le_refl _⟩, ⟨by (with_reducible repeat (first | refine qN ?_ _ | refine qD ?_ | refine qA ?_ _)); refine blk_far ?_ NB777_785.out _; (with_reducible repeat (first | refine qN ?_ _ | refine qD ?_ | refine qA ?_ _)); refine blk_far ?_ NB777_785.out _; (with_reducible repeat (first | refine qN ?_ _ | refine qD ?_ | refine qA ?_ _)); refine blk_far ?_ NB777_785.out _; (with_reducible repeat (first | refine qN ?_ _ | refine qD ?_ | refine qA ?_ _)); refine blk_far ?_ NB777_785.out _; (with_reducible repeat (first | refine qN ?_ _ | refine qD ?_ | refine qA ?_ _)); exact BK777.out⟩, ⟨by (with_reducible repeat (first | refine qN ?_ _ | refine qD ?_ | refine qA ?_ _)); refine blk_far ?_ NB784_785.out _; (with_reducible repeat (first | refine qN ?_ _ | refine qD ?_ | refine qA ?_ _)); refine blk_far ?_ NB784_785.out _; (with_reducible repeat (first | refine qN ?_ _ | refine qD ?_ | refine qA ?_ _)); refine blk_far ?_ NB784_785.out _; (with_reducible repeat (first | refine qN ?_ _ | refine qD ?_ | refine qA ?_ _)); refine blk_far ?_ NB784_785.out _; (with_reducible repeat (first | refine qN ?_ _ | refine qD ?_ | refine qA ?_ _)); exact BK784.out⟩, ⟨by (with_reducible repeat (first | refine qN ?_ _ | refine qD ?_ | refine qA ?_ _)); refine blk_put (cs := #[.int .i64 a0_0, .int .i64 a0_1, .int .i64 a0_2, .int .u8 0]) ?_ 3 _ rfl; (with_reducible repeat (first | refine qN ?_ _ | refine qD ?_ | refine qA ?_ _)); refine blk_put (cs := #[.int .i64 a0_0, .int .i64 a0_1, .int .i64 0, .int .u8 0]) ?_ 2 _ rfl; (with_reducible repeat (first | refine qN ?_ _ | refine qD ?_ | refine qA ?_ _)); refine blk_put (cs := #[.int .i64 a0_0, .int .i64 0, .int .i64 0, .int .u8 0]) ?_ 1 _ rfl; (with_reducible repeat (first | refine qN ?_ _ | refine qD ?_ | refine qA ?_ _)); refine blk_put (cs := #[.int .i64 0, .int .i64 0, .int .i64 0, .int .u8 0]) ?_ 0 _ rfl; (with_reducible repeat (first | refine qN ?_ _ | refine qD ?_ | refine qA ?_ _)); exact BK785.out⟩, ⟨by repeat (first | (with_reducible first | exact HB.out | apply pA | apply pN | apply pD | refine pS ?_ GE777.out | refine pS ?_ GE784.out | refine pS ?_ GE785.out) | exact HB.out)⟩⟩
    case round =>
      clear H'
      try clear c1
      try clear c2
      try clear p2
      try clear c6
      try clear p6
      try clear c7
      try clear c9
      try clear c10
      try clear c15
      try clear c18
      try clear c19
      try clear c20
      try clear hcz10_0
      try clear hcz10_1
      try clear hcz10_2
      try clear hcz10_3
      try clear hcz12_0
      try clear hcz12_1
      try clear hcz12_2
      try clear hcz12_3
      try clear hcz16_0
      try clear hcz16_1
      try clear hcz16_2
      try clear hcz16_3
      try clear hcz17_0
      try clear hcz17_1
      try clear hcz17_2
      try clear hcz17_3
      try clear hcz21_0
      try clear hcz21_1
      try clear hcz21_2
      try clear hcz21_3
      try clear hfz10_0
      try clear hfz10_1
      try clear hfz10_2
      try clear hfz10_3
      try clear hfz12_0
      try clear hfz12_1
      try clear hfz12_2
      try clear hfz12_3
      try clear hfz16_0
      try clear hfz16_1
      try clear hfz16_2
      try clear hfz16_3
      try clear hfz17_0
      try clear hfz17_1
      try clear hfz17_2
      try clear hfz17_3
      try clear hfz21_0
      try clear hfz21_1
      try clear hfz21_2
      try clear hfz21_3
      obtain ⟨x10_1, x786000_1, x786001_1, x786002_1, x786003_1, rfl, HA, HK1, BK777, BK784, BK785, HB⟩ := hrel
      cases gk with
      | zero => exact absurd HA.out (by simp [portreevelaw12_AutoQuiet.l0])
      | succ k1 =>
        have H := HA.out
        clear HA
        simp only [portreevelaw12_AutoQuiet.l0] at H
        by_cases c22 : x10_1 < (wrap64 (Int.tmod a1 30))
        · rw [if_pos c22] at H
          have c22b0 : decide (x10_1 < (wrap64 (Int.tmod a1 30))) = true := decide_eq_true c22
          clear c22
          replace H := Option.bind_eq_some_iff.mp H
          obtain ⟨⟨t786, t787, t788, t789, t790⟩, A230, H⟩ := H
          replace H : (portreevelaw12_AutoQuiet.l0 k1 a1 a2 t778 (wrap64 (x10_1 + 1)) a0_0 a0_1 a0_2 a0_3 t780 t781 t782 t783 t786 t787 t788 t789) = some r := H
          have A23 := Aside0.mk A230
          clear A230
          have H' := Aside0.mk H
          clear H
          have hnb24 := NB785_777.out
          have hnc24 := NB777_785.out
          have hnb25 := NB785_784.out
          have hnc25 := NB784_785.out
          have hcz26_0 : wr.cell? ⟨gb785, 0, none⟩ = some (.int .i64 x786000_1) := (blk_cell BK785.out 0).trans rfl
          have hcz26_1 : wr.cell? ⟨gb785, 1, none⟩ = some (.int .i64 x786001_1) := (blk_cell BK785.out 1).trans rfl
          have hcz26_2 : wr.cell? ⟨gb785, 2, none⟩ = some (.int .i64 x786002_1) := (blk_cell BK785.out 2).trans rfl
          have hcz26_3 : wr.cell? ⟨gb785, 3, none⟩ = some (.int .u8 x786003_1) := (blk_cell BK785.out 3).trans rfl
          have hfz26_0 := blk_frozen BK785.out 0
          have hfz26_1 := blk_frozen BK785.out 1
          have hfz26_2 := blk_frozen BK785.out 2
          have hfz26_3 := blk_frozen BK785.out 3
          go_wp2_with (first | ((with_reducible refine gate_callee (f := 15) rfl ?_); refine goesL_ (some 33) rfl rfl Tryd.func15 (by kernel_rfl) rfl #[.agg #[.int .i64 x786000_1, .int .i64 x786001_1, .int .i64 x786002_1, .int .u8 x786003_1]] rfl (by (try simp only [List.map_toArray, List.map_cons, List.map_nil]); first | done | rfl | (simp only [List.length_drop, List.length_take]; rfl)) ?_; (with_reducible refine (auto_Tick.calls x786000_1 x786001_1 x786002_1 x786003_1 t786 t787 t788 t789 t790 _ ?side1 A23.out).mono ?_); (case side1 => exact (HGL.out.below (by repeat (first | (with_reducible first | exact HB.out | apply pA | apply pN | apply pD | refine pS ?_ GE777.out | refine pS ?_ GE784.out | refine pS ?_ GE785.out) | exact HB.out)))); rintro e w27 ⟨v791, rfl, ho0, hb⟩; refine ⟨_, rfl, ?_⟩; have n0_ := Aside0.mk (Kd.R_lower ho0 (below_size (by repeat (first | (with_reducible first | exact HB.out | apply pA | apply pN | apply pD | refine pS ?_ GE777.out | refine pS ?_ GE784.out | refine pS ?_ GE785.out) | exact HB.out)))); have n1_ := Aside0.mk (blk_below (g := gb777) (o := .cells #[.int .i64 a0_0, .int .i64 a0_1, .int .i64 a0_2, .int .u8 a0_3] 23 (0, 0)) (by (with_reducible repeat (first | refine qN ?_ _ | refine qD ?_ | refine qA ?_ _)); exact BK777.out) hb); have n2_ := Aside0.mk (blk_below (g := gb784) (o := .cells #[.int .i64 t780, .int .i64 t781, .int .i64 t782, .int .u8 t783] 23 (0, 0)) (by (with_reducible repeat (first | refine qN ?_ _ | refine qD ?_ | refine qA ?_ _)); exact BK784.out) hb); have n3_ := Aside0.mk (blk_below (g := gb785) (o := .cells #[.int .i64 x786000_1, .int .i64 x786001_1, .int .i64 x786002_1, .int .u8 x786003_1] 23 (0, 0)) (by (with_reducible repeat (first | refine qN ?_ _ | refine qD ?_ | refine qA ?_ _)); exact BK785.out) hb); have n4_ := Aside0.mk (below_step (by repeat (first | (with_reducible first | exact HB.out | apply pA | apply pN | apply pD | refine pS ?_ GE777.out | refine pS ?_ GE784.out | refine pS ?_ GE785.out) | exact HB.out)) hb); clear BK777; clear BK784; clear BK785; clear HB; have HO792 := n0_; have BK777 := n1_; have BK784 := n2_; have BK785 := n3_; have HB := n4_; clear n0_ n1_ n2_ n3_ n4_; (try clear hb); (try clear hb2); (try clear hk); (try clear hi); (try clear ho0)) | ((with_reducible refine gate_dst (N := 11) rfl ?_); refine box_event ?hg (N := 11) ?hd (cs := #[.int .i64 0, .int .i64 0, .int .i64 0, .int .u8 0]) (t := 23) ?hr ?_; (case hd => rfl); (case hg => rfl); (case hr => first | (go_simp; done) | (go_simp; rfl)); intro gb793 hg w28 hbox hb; have n0_ := Aside0.mk (Kd.R_below (by (with_reducible repeat (first | apply Kd.R_alloc | apply Kd.R_drewN | apply Kd.R_drew)); exact HO792.out) hb); have n1_ := Aside0.mk (blk_below (g := gb777) (o := .cells #[.int .i64 a0_0, .int .i64 a0_1, .int .i64 a0_2, .int .u8 a0_3] 23 (0, 0)) (by (with_reducible repeat (first | refine qN ?_ _ | refine qD ?_ | refine qA ?_ _)); exact BK777.out) hb); have n2_ := Aside0.mk (blk_below (g := gb784) (o := .cells #[.int .i64 t780, .int .i64 t781, .int .i64 t782, .int .u8 t783] 23 (0, 0)) (by (with_reducible repeat (first | refine qN ?_ _ | refine qD ?_ | refine qA ?_ _)); exact BK784.out) hb); have n3_ := Aside0.mk (blk_below (g := gb785) (o := .cells #[.int .i64 x786000_1, .int .i64 x786001_1, .int .i64 x786002_1, .int .u8 x786003_1] 23 (0, 0)) (by (with_reducible repeat (first | refine qN ?_ _ | refine qD ?_ | refine qA ?_ _)); exact BK785.out) hb); have n4_ := Aside0.mk (below_step (by repeat (first | (with_reducible first | exact HB.out | apply pA | apply pN | apply pD | refine pS ?_ GE777.out | refine pS ?_ GE784.out | refine pS ?_ GE785.out) | exact HB.out)) hb); have n5_ := Aside0.mk (hbox); have n6_ := Aside0.mk ((by rw [hg]; exact (below_size (by repeat (first | (with_reducible first | exact HB.out | apply pA | apply pN | apply pD | refine pS ?_ GE777.out | refine pS ?_ GE784.out | refine pS ?_ GE785.out) | exact HB.out))) : w.heap.size ≤ gb793)); have n7_ := Aside0.mk ((by rw [hg]; exact (below_size (by repeat (first | (with_reducible first | exact HB.out | apply pA | apply pN | apply pD | refine pS ?_ GE777.out | refine pS ?_ GE784.out | refine pS ?_ GE785.out) | exact HB.out))) : w.heap.size ≤ gb793)); have n8_ := Aside0.mk ((by rw [hg]; exact Nat.ne_of_lt (blk_lt (g := gb777) (o := .cells #[.int .i64 a0_0, .int .i64 a0_1, .int .i64 a0_2, .int .u8 a0_3] 23 (0, 0)) (by (with_reducible repeat (first | refine qN ?_ _ | refine qD ?_ | refine qA ?_ _)); exact BK777.out)) : gb777 ≠ gb793)); have n9_ := Aside0.mk ((by rw [hg]; exact Nat.ne_of_gt (blk_lt (g := gb777) (o := .cells #[.int .i64 a0_0, .int .i64 a0_1, .int .i64 a0_2, .int .u8 a0_3] 23 (0, 0)) (by (with_reducible repeat (first | refine qN ?_ _ | refine qD ?_ | refine qA ?_ _)); exact BK777.out)) : gb793 ≠ gb777)); have n10_ := Aside0.mk ((by rw [hg]; exact Nat.ne_of_lt (blk_lt (g := gb784) (o := .cells #[.int .i64 t780, .int .i64 t781, .int .i64 t782, .int .u8 t783] 23 (0, 0)) (by (with_reducible repeat (first | refine qN ?_ _ | refine qD ?_ | refine qA ?_ _)); exact BK784.out)) : gb784 ≠ gb793)); have n11_ := Aside0.mk ((by rw [hg]; exact Nat.ne_of_gt (blk_lt (g := gb784) (o := .cells #[.int .i64 t780, .int .i64 t781, .int .i64 t782, .int .u8 t783] 23 (0, 0)) (by (with_reducible repeat (first | refine qN ?_ _ | refine qD ?_ | refine qA ?_ _)); exact BK784.out)) : gb793 ≠ gb784)); have n12_ := Aside0.mk ((by rw [hg]; exact Nat.ne_of_lt (blk_lt (g := gb785) (o := .cells #[.int .i64 x786000_1, .int .i64 x786001_1, .int .i64 x786002_1, .int .u8 x786003_1] 23 (0, 0)) (by (with_reducible repeat (first | refine qN ?_ _ | refine qD ?_ | refine qA ?_ _)); exact BK785.out)) : gb785 ≠ gb793)); have n13_ := Aside0.mk ((by rw [hg]; exact Nat.ne_of_gt (blk_lt (g := gb785) (o := .cells #[.int .i64 x786000_1, .int .i64 x786001_1, .int .i64 x786002_1, .int .u8 x786003_1] 23 (0, 0)) (by (with_reducible repeat (first | refine qN ?_ _ | refine qD ?_ | refine qA ?_ _)); exact BK785.out)) : gb793 ≠ gb785)); clear HO792; clear BK777; clear BK784; clear BK785; clear HB; have HO792 := n0_; have BK777 := n1_; have BK784 := n2_; have BK785 := n3_; have HB := n4_; have BK793 := n5_; have GW793 := n6_; have GE793 := n7_; have NB777_793 := n8_; have NB793_777 := n9_; have NB784_793 := n10_; have NB793_784 := n11_; have NB785_793 := n12_; have NB793_785 := n13_; clear n0_ n1_ n2_ n3_ n4_ n5_ n6_ n7_ n8_ n9_ n10_ n11_ n12_ n13_; clear hb hbox hg; have hnb29 := NB793_777.out; have hnc29 := NB777_793.out; have hnb30 := NB793_784.out; have hnc30 := NB784_793.out; have hnb31 := NB793_785.out; have hnc31 := NB785_793.out; have hcz32_0 : w28.cell? ⟨gb793, 0, none⟩ = some (.int .i64 0) := (blk_cell BK793.out 0).trans rfl; have hcz32_1 : w28.cell? ⟨gb793, 1, none⟩ = some (.int .i64 0) := (blk_cell BK793.out 1).trans rfl; have hcz32_2 : w28.cell? ⟨gb793, 2, none⟩ = some (.int .i64 0) := (blk_cell BK793.out 2).trans rfl; have hcz32_3 : w28.cell? ⟨gb793, 3, none⟩ = some (.int .u8 0) := (blk_cell BK793.out 3).trans rfl; have hfz32_0 := blk_frozen BK793.out 0; have hfz32_1 := blk_frozen BK793.out 1; have hfz32_2 := blk_frozen BK793.out 2; have hfz32_3 := blk_frozen BK793.out 3; have hcz33_0 : w28.cell? ⟨gb785, 0, none⟩ = some (.int .i64 x786000_1) := (blk_cell BK785.out 0).trans rfl; have hcz33_1 : w28.cell? ⟨gb785, 1, none⟩ = some (.int .i64 x786001_1) := (blk_cell BK785.out 1).trans rfl; have hcz33_2 : w28.cell? ⟨gb785, 2, none⟩ = some (.int .i64 x786002_1) := (blk_cell BK785.out 2).trans rfl; have hcz33_3 : w28.cell? ⟨gb785, 3, none⟩ = some (.int .u8 x786003_1) := (blk_cell BK785.out 3).trans rfl; have hfz33_0 := blk_frozen BK785.out 0; have hfz33_1 := blk_frozen BK785.out 1; have hfz33_2 := blk_frozen BK785.out 2; have hfz33_3 := blk_frozen BK785.out 3))
          go_roundg k1
          case measure => have := HK1.out; omega
          case rel => exact ⟨(wrap64 (x10_1 + 1)), (t786), (t787), (t788), (t789), (by first | rfl | (simp; done) | (simp [*]; done)), H', ⟨by have := HK1.out; omega⟩, ⟨by (with_reducible repeat (first | refine qN ?_ _ | refine qD ?_ | refine qA ?_ _)); refine blk_far ?_ NB777_785.out _; (with_reducible repeat (first | refine qN ?_ _ | refine qD ?_ | refine qA ?_ _)); refine blk_far ?_ NB777_785.out _; (with_reducible repeat (first | refine qN ?_ _ | refine qD ?_ | refine qA ?_ _)); refine blk_far ?_ NB777_785.out _; (with_reducible repeat (first | refine qN ?_ _ | refine qD ?_ | refine qA ?_ _)); refine blk_far ?_ NB777_785.out _; (with_reducible repeat (first | refine qN ?_ _ | refine qD ?_ | refine qA ?_ _)); refine blk_far ?_ NB777_793.out _; (with_reducible repeat (first | refine qN ?_ _ | refine qD ?_ | refine qA ?_ _)); refine blk_far ?_ NB777_793.out _; (with_reducible repeat (first | refine qN ?_ _ | refine qD ?_ | refine qA ?_ _)); refine blk_far ?_ NB777_793.out _; (with_reducible repeat (first | refine qN ?_ _ | refine qD ?_ | refine qA ?_ _)); refine blk_far ?_ NB777_793.out _; (with_reducible repeat (first | refine qN ?_ _ | refine qD ?_ | refine qA ?_ _)); exact BK777.out⟩, ⟨by (with_reducible repeat (first | refine qN ?_ _ | refine qD ?_ | refine qA ?_ _)); refine blk_far ?_ NB784_785.out _; (with_reducible repeat (first | refine qN ?_ _ | refine qD ?_ | refine qA ?_ _)); refine blk_far ?_ NB784_785.out _; (with_reducible repeat (first | refine qN ?_ _ | refine qD ?_ | refine qA ?_ _)); refine blk_far ?_ NB784_785.out _; (with_reducible repeat (first | refine qN ?_ _ | refine qD ?_ | refine qA ?_ _)); refine blk_far ?_ NB784_785.out _; (with_reducible repeat (first | refine qN ?_ _ | refine qD ?_ | refine qA ?_ _)); refine blk_far ?_ NB784_793.out _; (with_reducible repeat (first | refine qN ?_ _ | refine qD ?_ | refine qA ?_ _)); refine blk_far ?_ NB784_793.out _; (with_reducible repeat (first | refine qN ?_ _ | refine qD ?_ | refine qA ?_ _)); refine blk_far ?_ NB784_793.out _; (with_reducible repeat (first | refine qN ?_ _ | refine qD ?_ | refine qA ?_ _)); refine blk_far ?_ NB784_793.out _; (with_reducible repeat (first | refine qN ?_ _ | refine qD ?_ | refine qA ?_ _)); exact BK784.out⟩, ⟨by (with_reducible repeat (first | refine qN ?_ _ | refine qD ?_ | refine qA ?_ _)); refine blk_put (cs := #[.int .i64 t786, .int .i64 t787, .int .i64 t788, .int .u8 x786003_1]) ?_ 3 _ rfl; (with_reducible repeat (first | refine qN ?_ _ | refine qD ?_ | refine qA ?_ _)); refine blk_put (cs := #[.int .i64 t786, .int .i64 t787, .int .i64 x786002_1, .int .u8 x786003_1]) ?_ 2 _ rfl; (with_reducible repeat (first | refine qN ?_ _ | refine qD ?_ | refine qA ?_ _)); refine blk_put (cs := #[.int .i64 t786, .int .i64 x786001_1, .int .i64 x786002_1, .int .u8 x786003_1]) ?_ 1 _ rfl; (with_reducible repeat (first | refine qN ?_ _ | refine qD ?_ | refine qA ?_ _)); refine blk_put (cs := #[.int .i64 x786000_1, .int .i64 x786001_1, .int .i64 x786002_1, .int .u8 x786003_1]) ?_ 0 _ rfl; (with_reducible repeat (first | refine qN ?_ _ | refine qD ?_ | refine qA ?_ _)); refine blk_far ?_ NB785_793.out _; (with_reducible repeat (first | refine qN ?_ _ | refine qD ?_ | refine qA ?_ _)); refine blk_far ?_ NB785_793.out _; (with_reducible repeat (first | refine qN ?_ _ | refine qD ?_ | refine qA ?_ _)); refine blk_far ?_ NB785_793.out _; (with_reducible repeat (first | refine qN ?_ _ | refine qD ?_ | refine qA ?_ _)); refine blk_far ?_ NB785_793.out _; (with_reducible repeat (first | refine qN ?_ _ | refine qD ?_ | refine qA ?_ _)); exact BK785.out⟩, ⟨by repeat (first | (with_reducible first | exact HB.out | apply pA | apply pN | apply pD | refine pS ?_ GE777.out | refine pS ?_ GE784.out | refine pS ?_ GE785.out | refine pS ?_ GE793.out) | exact HB.out)⟩⟩
        · rw [if_neg c22] at H
          have c22b0 : decide (x10_1 < (wrap64 (Int.tmod a1 30))) = false := decide_eq_false c22
          clear c22
          by_cases c34 : t778 = true
          · subst c34
            have H1 : (if (t780 == x786000_1 && (t781 == x786001_1 && (t782 == x786002_1 && (t783 == x786003_1)))) = true then ((auto_Quiet.f k1 t780 t781 t782 t783 (wrap64 (Int.tmod a2 30))).bind fun bt794 => ((auto_Quiet.f k1 a0_0 a0_1 a0_2 a0_3 (wrap64 ((wrap64 (Int.tmod a1 30)) + (wrap64 (Int.tmod a2 30))))).bind fun bt798 => (if (bt794.1 == bt798.1 && (bt794.2.1 == bt798.2.1 && (bt794.2.2.1 == bt798.2.2.1 && (bt794.2.2.2 == bt798.2.2.2)))) = true then ((auto_Quiet.f k1 a0_0 a0_1 a0_2 a0_3 0).bind fun bt802 => (if (bt802.1 == a0_0 && (bt802.2.1 == a0_1 && (bt802.2.2.1 == a0_2 && (bt802.2.2.2 == a0_3)))) = true then ((auto_Quiet.f k1 a0_0 a0_1 a0_2 a0_3 (-5)).bind fun bt806 => (some (bt806.1 == a0_0 && (bt806.2.1 == a0_1 && (bt806.2.2.1 == a0_2 && (bt806.2.2.2 == a0_3)))))) else (some false))) else (some false)))) else (some false)) = some r := by rw [if_pos rfl] at H; exact H
            clear H
            have H := H1
            clear H1
            by_cases c35 : (t780 == x786000_1 && (t781 == x786001_1 && (t782 == x786002_1 && (t783 == x786003_1)))) = true
            · rw [if_pos c35] at H
              have c35b0 : (t780 == x786000_1 && (t781 == x786001_1 && (t782 == x786002_1 && (t783 == x786003_1)))) = true := c35
              (try (have c35b1 : decide (t780 = x786000_1 && (t781 == x786001_1 && (t782 == x786002_1 && (t783 == x786003_1)))) = true := by simpa using c35))
              (try (have c35b2 : (t780 == x786000_1 && (t781 == x786001_1 && (t782 == x786002_1 && (t783 == x786003_1)))) = true := by simpa using c35))
              clear c35
              replace H := Option.bind_eq_some_iff.mp H
              obtain ⟨⟨t794, t795, t796, t797⟩, A360, H⟩ := H
              replace H : ((auto_Quiet.f k1 a0_0 a0_1 a0_2 a0_3 (wrap64 ((wrap64 (Int.tmod a1 30)) + (wrap64 (Int.tmod a2 30))))).bind fun bt798 => (if (t794 == bt798.1 && (t795 == bt798.2.1 && (t796 == bt798.2.2.1 && (t797 == bt798.2.2.2)))) = true then ((auto_Quiet.f k1 a0_0 a0_1 a0_2 a0_3 0).bind fun bt802 => (if (bt802.1 == a0_0 && (bt802.2.1 == a0_1 && (bt802.2.2.1 == a0_2 && (bt802.2.2.2 == a0_3)))) = true then ((auto_Quiet.f k1 a0_0 a0_1 a0_2 a0_3 (-5)).bind fun bt806 => (some (bt806.1 == a0_0 && (bt806.2.1 == a0_1 && (bt806.2.2.1 == a0_2 && (bt806.2.2.2 == a0_3)))))) else (some false))) else (some false))) = some r := H
              have A36 := Aside0.mk A360
              clear A360
              replace H := Option.bind_eq_some_iff.mp H
              obtain ⟨⟨t798, t799, t800, t801⟩, A370, H⟩ := H
              replace H : (if (t794 == t798 && (t795 == t799 && (t796 == t800 && (t797 == t801)))) = true then ((auto_Quiet.f k1 a0_0 a0_1 a0_2 a0_3 0).bind fun bt802 => (if (bt802.1 == a0_0 && (bt802.2.1 == a0_1 && (bt802.2.2.1 == a0_2 && (bt802.2.2.2 == a0_3)))) = true then ((auto_Quiet.f k1 a0_0 a0_1 a0_2 a0_3 (-5)).bind fun bt806 => (some (bt806.1 == a0_0 && (bt806.2.1 == a0_1 && (bt806.2.2.1 == a0_2 && (bt806.2.2.2 == a0_3)))))) else (some false))) else (some false)) = some r := H
              have A37 := Aside0.mk A370
              clear A370
              by_cases c38 : (t794 == t798 && (t795 == t799 && (t796 == t800 && (t797 == t801)))) = true
              · rw [if_pos c38] at H
                have c38b0 : (t794 == t798 && (t795 == t799 && (t796 == t800 && (t797 == t801)))) = true := c38
                (try (have c38b1 : decide (t794 = t798 && (t795 == t799 && (t796 == t800 && (t797 == t801)))) = true := by simpa using c38))
                (try (have c38b2 : (t794 == t798 && (t795 == t799 && (t796 == t800 && (t797 == t801)))) = true := by simpa using c38))
                clear c38
                replace H := Option.bind_eq_some_iff.mp H
                obtain ⟨⟨t802, t803, t804, t805⟩, A390, H⟩ := H
                replace H : (if (t802 == a0_0 && (t803 == a0_1 && (t804 == a0_2 && (t805 == a0_3)))) = true then ((auto_Quiet.f k1 a0_0 a0_1 a0_2 a0_3 (-5)).bind fun bt806 => (some (bt806.1 == a0_0 && (bt806.2.1 == a0_1 && (bt806.2.2.1 == a0_2 && (bt806.2.2.2 == a0_3)))))) else (some false)) = some r := H
                have A39 := Aside0.mk A390
                clear A390
                by_cases c40 : (t802 == a0_0 && (t803 == a0_1 && (t804 == a0_2 && (t805 == a0_3)))) = true
                · rw [if_pos c40] at H
                  have c40b0 : (t802 == a0_0 && (t803 == a0_1 && (t804 == a0_2 && (t805 == a0_3)))) = true := c40
                  (try (have c40b1 : decide (t802 = a0_0 && (t803 == a0_1 && (t804 == a0_2 && (t805 == a0_3)))) = true := by simpa using c40))
                  (try (have c40b2 : (t802 == a0_0 && (t803 == a0_1 && (t804 == a0_2 && (t805 == a0_3)))) = true := by simpa using c40))
                  clear c40
                  replace H := Option.bind_eq_some_iff.mp H
                  obtain ⟨⟨t806, t807, t808, t809⟩, A410, H⟩ := H
                  replace H : (some (t806 == a0_0 && (t807 == a0_1 && (t808 == a0_2 && (t809 == a0_3))))) = some r := H
                  have A41 := Aside0.mk A410
                  clear A410
                  clear hlaw_
                  obtain rfl := Option.some.inj H
                  try go_wp2
                  have n0_ := Aside0.mk (qD BK777.out)
                  have n1_ := Aside0.mk (qD BK784.out)
                  have n2_ := Aside0.mk (qD BK785.out)
                  have n3_ := Aside0.mk (pD HB.out)
                  clear BK777
                  clear BK784
                  clear BK785
                  clear HB
                  have BK777 := n0_
                  have BK784 := n1_
                  have BK785 := n2_
                  have HB := n3_
                  clear n0_ n1_ n2_ n3_
                  refine start_ (n := 36) (S := fun w' => w'.cell? ⟨gb784, 0, none⟩ = some (.int .i64 t780) ∧ w'.cell? ⟨gb784, 1, none⟩ = some (.int .i64 t781) ∧ w'.cell? ⟨gb784, 2, none⟩ = some (.int .i64 t782) ∧ w'.cell? ⟨gb784, 3, none⟩ = some (.int .u8 t783) ∧ w'.cell? ⟨gb785, 0, none⟩ = some (.int .i64 x786000_1) ∧ w'.cell? ⟨gb785, 1, none⟩ = some (.int .i64 x786001_1) ∧ w'.cell? ⟨gb785, 2, none⟩ = some (.int .i64 x786002_1) ∧ w'.cell? ⟨gb785, 3, none⟩ = some (.int .u8 x786003_1) ∧ w'.cell? ⟨gb777, 0, none⟩ = some (.int .i64 a0_0) ∧ w'.cell? ⟨gb777, 1, none⟩ = some (.int .i64 a0_1) ∧ w'.cell? ⟨gb777, 2, none⟩ = some (.int .i64 a0_2) ∧ w'.cell? ⟨gb777, 3, none⟩ = some (.int .u8 a0_3)) (ds := []) #[false, false, false, false, false, false, false, false, false, false, false, false, false, false, false, false, false, false, false, false, false, false, false, false, false, false, false, false, false, false, false, false, false, false, false, false] (by kernel_rfl) rfl rfl ⟨(blk_cell BK784.out 0).trans rfl, (blk_cell BK784.out 1).trans rfl, (blk_cell BK784.out 2).trans rfl, (blk_cell BK784.out 3).trans rfl, (blk_cell BK785.out 0).trans rfl, (blk_cell BK785.out 1).trans rfl, (blk_cell BK785.out 2).trans rfl, (blk_cell BK785.out 3).trans rfl, (blk_cell BK777.out 0).trans rfl, (blk_cell BK777.out 1).trans rfl, (blk_cell BK777.out 2).trans rfl, (blk_cell BK777.out 3).trans rfl⟩ (fun hHeld => ?_); refine with_tabW portreevelaw12_AutoQuiet.tab11 portreevelaw12_AutoQuiet.bits11 (fun HT_ HW_ => ?_)
                  generalize wr.drew = w42 at BK777 BK784 BK785 HB hHeld ⊢
                  refine pure_ (i := 0) (N := some 37) (v := ?_) (a' := ?_) #[true, false, false, false, false, false, false, false, false, false, false, false, false, false, false, false, false, false, false, false, false, false, false, false, false, false, false, false, false, false, false, false, false, false, false, false] rfl rfl (any_of HT_.out (by kernel_rfl)) (fun _ _ _ h => h) (Or.inl ⟨by rfl, ?_⟩) ?_ ?_
                  rotate_left
                  · intro w'
                    go_simp
                    with_reducible rfl
                  rotate_left
                  · simp only [Act.put, List.setIfInBounds_toArray, List.set_cons_zero, List.set_cons_succ, i64_w, i32_w]
                    rfl
                  refine pure_ (i := 1) (N := some 38) (v := ?_) (a' := ?_) #[true, true, false, false, false, false, false, false, false, false, false, false, false, false, false, false, false, false, false, false, false, false, false, false, false, false, false, false, false, false, false, false, false, false, false, false] rfl rfl (any_of HT_.out (by kernel_rfl)) (fun _ _ _ h => h) (Or.inl ⟨by rfl, ?_⟩) ?_ ?_
                  rotate_left
                  · intro w'
                    go_simp
                    with_reducible rfl
                  rotate_left
                  · simp only [Act.put, List.setIfInBounds_toArray, List.set_cons_zero, List.set_cons_succ, i64_w, i32_w]
                    rfl
                  refine take_ (i := 2) (N := some 39) (v := ?_) (a' := ?_) #[true, true, true, false, false, false, false, false, false, false, false, false, false, false, false, false, false, false, false, false, false, false, false, false, false, false, false, false, false, false, false, false, false, false, false, false] rfl rfl (take_ofW HT_.out HW_.out (by kernel_rfl)) (fun _ _ _ h => h) (Or.inl ⟨by rfl, ?_⟩) hHeld ?_ ?_
                  rotate_left
                  · rintro w' ⟨s0, s1, s2, s3, s4, s5, s6, s7, s8, s9, s10, s11⟩
                    go_simp
                    with_reducible rfl
                  rotate_left
                  · simp only [Act.put, List.setIfInBounds_toArray, List.set_cons_zero, List.set_cons_succ, i64_w, i32_w]
                    rfl
                  refine take_ (i := 3) (N := some 40) (v := ?_) (a' := ?_) #[true, true, true, true, false, false, false, false, false, false, false, false, false, false, false, false, false, false, false, false, false, false, false, false, false, false, false, false, false, false, false, false, false, false, false, false] rfl rfl (take_ofW HT_.out HW_.out (by kernel_rfl)) (fun _ _ _ h => h) (Or.inl ⟨by rfl, ?_⟩) hHeld ?_ ?_
                  rotate_left
                  · rintro w' ⟨s0, s1, s2, s3, s4, s5, s6, s7, s8, s9, s10, s11⟩
                    go_simp
                    with_reducible rfl
                  rotate_left
                  · simp only [Act.put, List.setIfInBounds_toArray, List.set_cons_zero, List.set_cons_succ, i64_w, i32_w]
                    rfl
                  refine pure_ (i := 4) (N := some 41) (v := ?_) (a' := ?_) #[true, true, true, true, true, false, false, false, false, false, false, false, false, false, false, false, false, false, false, false, false, false, false, false, false, false, false, false, false, false, false, false, false, false, false, false] rfl rfl (any_of HT_.out (by kernel_rfl)) (fun _ _ _ h => h) (Or.inl ⟨by rfl, ?_⟩) ?_ ?_
                  rotate_left
                  · intro w'
                    go_simp
                    with_reducible rfl
                  rotate_left
                  · simp only [Act.put, List.setIfInBounds_toArray, List.set_cons_zero, List.set_cons_succ, i64_w, i32_w]
                    rfl
                  refine pure_ (i := 5) (N := some 42) (v := ?_) (a' := ?_) #[true, true, true, true, true, true, false, false, false, false, false, false, false, false, false, false, false, false, false, false, false, false, false, false, false, false, false, false, false, false, false, false, false, false, false, false] rfl rfl (any_of HT_.out (by kernel_rfl)) (fun _ _ _ h => h) (Or.inl ⟨by rfl, ?_⟩) ?_ ?_
                  rotate_left
                  · intro w'
                    go_simp
                    with_reducible rfl
                  rotate_left
                  · simp only [Act.put, List.setIfInBounds_toArray, List.set_cons_zero, List.set_cons_succ, i64_w, i32_w]
                    rfl
                  refine pure_ (i := 6) (N := some 43) (v := ?_) (a' := ?_) #[true, true, true, true, true, true, true, false, false, false, false, false, false, false, false, false, false, false, false, false, false, false, false, false, false, false, false, false, false, false, false, false, false, false, false, false] rfl rfl (any_of HT_.out (by kernel_rfl)) (fun _ _ _ h => h) (Or.inl ⟨by rfl, ?_⟩) ?_ ?_
                  rotate_left
                  · intro w'
                    go_simp
                    with_reducible rfl
                  rotate_left
                  · simp only [Act.put, List.setIfInBounds_toArray, List.set_cons_zero, List.set_cons_succ, i64_w, i32_w]
                    rfl
                  refine pure_ (i := 8) (N := some 45) (v := ?_) (a' := ?_) #[true, true, true, true, true, true, true, false, true, false, false, false, false, false, false, false, false, false, false, false, false, false, false, false, false, false, false, false, false, false, false, false, false, false, false, false] rfl rfl (any_of HT_.out (by kernel_rfl)) (fun _ _ _ h => h) (Or.inl ⟨by rfl, ?_⟩) ?_ ?_
                  rotate_left
                  · intro w'
                    go_simp
                    with_reducible rfl
                  rotate_left
                  · simp only [Act.put, List.setIfInBounds_toArray, List.set_cons_zero, List.set_cons_succ, i64_w, i32_w]
                    rfl
                  refine pure_ (i := 9) (N := some 46) (v := ?_) (a' := ?_) #[true, true, true, true, true, true, true, false, true, true, false, false, false, false, false, false, false, false, false, false, false, false, false, false, false, false, false, false, false, false, false, false, false, false, false, false] rfl rfl (any_of HT_.out (by kernel_rfl)) (fun _ _ _ h => h) (Or.inl ⟨by rfl, ?_⟩) ?_ ?_
                  rotate_left
                  · intro w'
                    go_simp
                    with_reducible rfl
                  rotate_left
                  · simp only [Act.put, List.setIfInBounds_toArray, List.set_cons_zero, List.set_cons_succ, i64_w, i32_w]
                    rfl
                  refine pure_ (i := 10) (N := some 47) (v := ?_) (a' := ?_) #[true, true, true, true, true, true, true, false, true, true, true, false, false, false, false, false, false, false, false, false, false, false, false, false, false, false, false, false, false, false, false, false, false, false, false, false] rfl rfl (any_of HT_.out (by kernel_rfl)) (fun _ _ _ h => h) (Or.inl ⟨by rfl, ?_⟩) ?_ ?_
                  rotate_left
                  · intro w'
                    go_simp
                    with_reducible rfl
                  rotate_left
                  · simp only [Act.put, List.setIfInBounds_toArray, List.set_cons_zero, List.set_cons_succ, i64_w, i32_w]
                    rfl
                  refine pure_ (i := 13) (N := some 50) (v := ?_) (a' := ?_) #[true, true, true, true, true, true, true, false, true, true, true, false, false, true, false, false, false, false, false, false, false, false, false, false, false, false, false, false, false, false, false, false, false, false, false, false] rfl rfl (any_of HT_.out (by kernel_rfl)) (fun _ _ _ h => h) (Or.inl ⟨by rfl, ?_⟩) ?_ ?_
                  rotate_left
                  · intro w'
                    go_simp
                    with_reducible rfl
                  rotate_left
                  · simp only [Act.put, List.setIfInBounds_toArray, List.set_cons_zero, List.set_cons_succ, i64_w, i32_w]
                    rfl
                  refine pure_ (i := 14) (N := some 51) (v := ?_) (a' := ?_) #[true, true, true, true, true, true, true, false, true, true, true, false, false, true, true, false, false, false, false, false, false, false, false, false, false, false, false, false, false, false, false, false, false, false, false, false] rfl rfl (any_of HT_.out (by kernel_rfl)) (fun _ _ _ h => h) (Or.inl ⟨by rfl, ?_⟩) ?_ ?_
                  rotate_left
                  · intro w'
                    go_simp
                    with_reducible rfl
                  rotate_left
                  · simp only [Act.put, List.setIfInBounds_toArray, List.set_cons_zero, List.set_cons_succ, i64_w, i32_w]
                    rfl
                  refine pure_ (i := 15) (N := some 52) (v := ?_) (a' := ?_) #[true, true, true, true, true, true, true, false, true, true, true, false, false, true, true, true, false, false, false, false, false, false, false, false, false, false, false, false, false, false, false, false, false, false, false, false] rfl rfl (any_of HT_.out (by kernel_rfl)) (fun _ _ _ h => h) (Or.inl ⟨by rfl, ?_⟩) ?_ ?_
                  rotate_left
                  · intro w'
                    go_simp
                    with_reducible rfl
                  rotate_left
                  · simp only [Act.put, List.setIfInBounds_toArray, List.set_cons_zero, List.set_cons_succ, i64_w, i32_w]
                    rfl
                  refine pure_ (i := 16) (N := some 53) (v := ?_) (a' := ?_) #[true, true, true, true, true, true, true, false, true, true, true, false, false, true, true, true, true, false, false, false, false, false, false, false, false, false, false, false, false, false, false, false, false, false, false, false] rfl rfl (any_of HT_.out (by kernel_rfl)) (fun _ _ _ h => h) (Or.inl ⟨by rfl, ?_⟩) ?_ ?_
                  rotate_left
                  · intro w'
                    go_simp
                    with_reducible rfl
                  rotate_left
                  · simp only [Act.put, List.setIfInBounds_toArray, List.set_cons_zero, List.set_cons_succ, i64_w, i32_w]
                    rfl
                  refine pure_ (i := 17) (N := some 54) (v := ?_) (a' := ?_) #[true, true, true, true, true, true, true, false, true, true, true, false, false, true, true, true, true, true, false, false, false, false, false, false, false, false, false, false, false, false, false, false, false, false, false, false] rfl rfl (any_of HT_.out (by kernel_rfl)) (fun _ _ _ h => h) (Or.inl ⟨by rfl, ?_⟩) ?_ ?_
                  rotate_left
                  · intro w'
                    go_simp
                    with_reducible rfl
                  rotate_left
                  · simp only [Act.put, List.setIfInBounds_toArray, List.set_cons_zero, List.set_cons_succ, i64_w, i32_w]
                    rfl
                  refine pure_ (i := 18) (N := some 55) (v := ?_) (a' := ?_) #[true, true, true, true, true, true, true, false, true, true, true, false, false, true, true, true, true, true, true, false, false, false, false, false, false, false, false, false, false, false, false, false, false, false, false, false] rfl rfl (any_of HT_.out (by kernel_rfl)) (fun _ _ _ h => h) (Or.inl ⟨by rfl, ?_⟩) ?_ ?_
                  rotate_left
                  · intro w'
                    go_simp
                    with_reducible rfl
                  rotate_left
                  · simp only [Act.put, List.setIfInBounds_toArray, List.set_cons_zero, List.set_cons_succ, i64_w, i32_w]
                    rfl
                  refine pure_ (i := 19) (N := some 56) (v := ?_) (a' := ?_) #[true, true, true, true, true, true, true, false, true, true, true, false, false, true, true, true, true, true, true, true, false, false, false, false, false, false, false, false, false, false, false, false, false, false, false, false] rfl rfl (any_of HT_.out (by kernel_rfl)) (fun _ _ _ h => h) (Or.inl ⟨by rfl, ?_⟩) ?_ ?_
                  rotate_left
                  · intro w'
                    go_simp
                    with_reducible rfl
                  rotate_left
                  · simp only [Act.put, List.setIfInBounds_toArray, List.set_cons_zero, List.set_cons_succ, i64_w, i32_w]
                    rfl
                  refine take_ (i := 7) (N := some 44) (v := ?_) (a' := ?_) #[true, true, true, true, true, true, true, true, true, true, true, false, false, true, true, true, true, true, true, true, false, false, false, false, false, false, false, false, false, false, false, false, false, false, false, false] rfl rfl (take_ofW HT_.out HW_.out (by kernel_rfl)) (fun _ _ _ h => h) (Or.inl ⟨by rfl, ?_⟩) hHeld ?_ ?_
                  rotate_left
                  · rintro w' ⟨s0, s1, s2, s3, s4, s5, s6, s7, s8, s9, s10, s11⟩
                    go_simp
                    with_reducible rfl
                  rotate_left
                  · simp only [Act.put, List.setIfInBounds_toArray, List.set_cons_zero, List.set_cons_succ, i64_w, i32_w]
                    rfl
                  refine take_ (i := 12) (N := some 49) (v := ?_) (a' := ?_) #[true, true, true, true, true, true, true, true, true, true, true, false, true, true, true, true, true, true, true, true, false, false, false, false, false, false, false, false, false, false, false, false, false, false, false, false] rfl rfl (take_ofW HT_.out HW_.out (by kernel_rfl)) (fun _ _ _ h => h) (Or.inl ⟨by rfl, ?_⟩) hHeld ?_ ?_
                  rotate_left
                  · rintro w' ⟨s0, s1, s2, s3, s4, s5, s6, s7, s8, s9, s10, s11⟩
                    go_simp
                    with_reducible rfl
                  rotate_left
                  · simp only [Act.put, List.setIfInBounds_toArray, List.set_cons_zero, List.set_cons_succ, i64_w, i32_w]
                    rfl
                  refine one_ (i := 11) (N := some 48) #[true, true, true, true, true, true, true, true, true, true, true, true, true, true, true, true, true, true, true, true, false, false, false, false, false, false, false, false, false, false, false, false, false, false, false, false] rfl rfl (one_of HT_.out (by kernel_rfl)) (by decide) (fun K hK => ?_)
                  refine goes_ Tryd.func18 (by kernel_rfl) rfl #[.agg #[.int .i64 t780, .int .i64 t781, .int .i64 t782, .int .u8 t783], .int .i64 (wrap64 (Int.tmod a2 30))] (by rfl) rfl rfl (by (try simp only [List.map_toArray, List.map_cons, List.map_nil]); first | done | rfl | (simp only [List.length_drop, List.length_take]; rfl)) ?_
                  with_reducible refine (auto_Quiet.calls k1 t780 t781 t782 t783 (wrap64 (Int.tmod a2 30)) t794 t795 t796 t797 _ ?side1 A36.out).mono ?_
                  (case side1 => exact (HGL.out.below (by repeat (first | (with_reducible first | exact HB.out | apply pA | apply pN | apply pD | refine pS ?_ GE777.out | refine pS ?_ GE784.out | refine pS ?_ GE785.out) | exact HB.out))))
                  rintro e w43 ⟨rfl, hb⟩
                  refine ⟨_, rfl, ?_⟩
                  have n0_ := Aside0.mk (blk_below (g := gb777) (o := .cells #[.int .i64 a0_0, .int .i64 a0_1, .int .i64 a0_2, .int .u8 a0_3] 23 (0, 0)) (by (with_reducible repeat (first | refine qN ?_ _ | refine qD ?_ | refine qA ?_ _)); exact BK777.out) hb)
                  have n1_ := Aside0.mk (blk_below (g := gb784) (o := .cells #[.int .i64 t780, .int .i64 t781, .int .i64 t782, .int .u8 t783] 23 (0, 0)) (by (with_reducible repeat (first | refine qN ?_ _ | refine qD ?_ | refine qA ?_ _)); exact BK784.out) hb)
                  have n2_ := Aside0.mk (blk_below (g := gb785) (o := .cells #[.int .i64 x786000_1, .int .i64 x786001_1, .int .i64 x786002_1, .int .u8 x786003_1] 23 (0, 0)) (by (with_reducible repeat (first | refine qN ?_ _ | refine qD ?_ | refine qA ?_ _)); exact BK785.out) hb)
                  have n3_ := Aside0.mk (below_step (by repeat (first | (with_reducible first | exact HB.out | apply pA | apply pN | apply pD | refine pS ?_ GE777.out | refine pS ?_ GE784.out | refine pS ?_ GE785.out) | exact HB.out)) hb)
                  clear BK777
                  clear BK784
                  clear BK785
                  clear HB
                  have BK777 := n0_
                  have BK784 := n1_
                  have BK785 := n2_
                  have HB := n3_
                  clear n0_ n1_ n2_ n3_
                  (try clear hb)
                  (try clear hb2)
                  (try clear hk)
                  (try clear hi)
                  refine hK.out _ _ ⟨(blk_cell BK784.out 0).trans rfl, (blk_cell BK784.out 1).trans rfl, (blk_cell BK784.out 2).trans rfl, (blk_cell BK784.out 3).trans rfl, (blk_cell BK785.out 0).trans rfl, (blk_cell BK785.out 1).trans rfl, (blk_cell BK785.out 2).trans rfl, (blk_cell BK785.out 3).trans rfl, (blk_cell BK777.out 0).trans rfl, (blk_cell BK777.out 1).trans rfl, (blk_cell BK777.out 2).trans rfl, (blk_cell BK777.out 3).trans rfl⟩ (fun hHeld => ?_)
                  clear hK K
                  refine norm_ (a' := ?_) ?_ ?_
                  rotate_left
                  · show Act.put _ (some 48) _ = _
                    simp only [Act.put, List.setIfInBounds_toArray, List.set_cons_zero, List.set_cons_succ, i64_w, i32_w]
                    rfl
                  refine one_ (i := 20) (N := some 57) #[true, true, true, true, true, true, true, true, true, true, true, true, true, true, true, true, true, true, true, true, true, false, false, false, false, false, false, false, false, false, false, false, false, false, false, false] rfl rfl (one_of HT_.out (by kernel_rfl)) (by decide) (fun K hK => ?_)
                  refine goes_ Tryd.func18 (by kernel_rfl) rfl #[.agg #[.int .i64 a0_0, .int .i64 a0_1, .int .i64 a0_2, .int .u8 a0_3], .int .i64 (wrap64 ((wrap64 (Int.tmod a1 30)) + (wrap64 (Int.tmod a2 30))))] (by rfl) rfl rfl (by (try simp only [List.map_toArray, List.map_cons, List.map_nil]); first | done | rfl | (simp only [List.length_drop, List.length_take]; rfl)) ?_
                  with_reducible refine (auto_Quiet.calls k1 a0_0 a0_1 a0_2 a0_3 (wrap64 ((wrap64 (Int.tmod a1 30)) + (wrap64 (Int.tmod a2 30)))) t798 t799 t800 t801 _ ?side1 A37.out).mono ?_
                  (case side1 => exact (HGL.out.below (by repeat (first | (with_reducible first | exact HB.out | apply pA | apply pN | apply pD | refine pS ?_ GE777.out | refine pS ?_ GE784.out | refine pS ?_ GE785.out) | exact HB.out))))
                  rintro e w44 ⟨rfl, hb⟩
                  refine ⟨_, rfl, ?_⟩
                  have n0_ := Aside0.mk (blk_below (g := gb777) (o := .cells #[.int .i64 a0_0, .int .i64 a0_1, .int .i64 a0_2, .int .u8 a0_3] 23 (0, 0)) (by (with_reducible repeat (first | refine qN ?_ _ | refine qD ?_ | refine qA ?_ _)); exact BK777.out) hb)
                  have n1_ := Aside0.mk (blk_below (g := gb784) (o := .cells #[.int .i64 t780, .int .i64 t781, .int .i64 t782, .int .u8 t783] 23 (0, 0)) (by (with_reducible repeat (first | refine qN ?_ _ | refine qD ?_ | refine qA ?_ _)); exact BK784.out) hb)
                  have n2_ := Aside0.mk (blk_below (g := gb785) (o := .cells #[.int .i64 x786000_1, .int .i64 x786001_1, .int .i64 x786002_1, .int .u8 x786003_1] 23 (0, 0)) (by (with_reducible repeat (first | refine qN ?_ _ | refine qD ?_ | refine qA ?_ _)); exact BK785.out) hb)
                  have n3_ := Aside0.mk (below_step (by repeat (first | (with_reducible first | exact HB.out | apply pA | apply pN | apply pD | refine pS ?_ GE777.out | refine pS ?_ GE784.out | refine pS ?_ GE785.out) | exact HB.out)) hb)
                  clear BK777
                  clear BK784
                  clear BK785
                  clear HB
                  have BK777 := n0_
                  have BK784 := n1_
                  have BK785 := n2_
                  have HB := n3_
                  clear n0_ n1_ n2_ n3_
                  (try clear hb)
                  (try clear hb2)
                  (try clear hk)
                  (try clear hi)
                  refine hK.out _ _ ⟨(blk_cell BK784.out 0).trans rfl, (blk_cell BK784.out 1).trans rfl, (blk_cell BK784.out 2).trans rfl, (blk_cell BK784.out 3).trans rfl, (blk_cell BK785.out 0).trans rfl, (blk_cell BK785.out 1).trans rfl, (blk_cell BK785.out 2).trans rfl, (blk_cell BK785.out 3).trans rfl, (blk_cell BK777.out 0).trans rfl, (blk_cell BK777.out 1).trans rfl, (blk_cell BK777.out 2).trans rfl, (blk_cell BK777.out 3).trans rfl⟩ (fun hHeld => ?_)
                  clear hK K
                  refine norm_ (a' := ?_) ?_ ?_
                  rotate_left
                  · show Act.put _ (some 57) _ = _
                    simp only [Act.put, List.setIfInBounds_toArray, List.set_cons_zero, List.set_cons_succ, i64_w, i32_w]
                    rfl
                  refine pure_ (i := 21) (N := some 58) (v := ?_) (a' := ?_) #[true, true, true, true, true, true, true, true, true, true, true, true, true, true, true, true, true, true, true, true, true, true, false, false, false, false, false, false, false, false, false, false, false, false, false, false] rfl rfl (any_of HT_.out (by kernel_rfl)) (fun _ _ _ h => h) (Or.inl ⟨by rfl, ?_⟩) ?_ ?_
                  rotate_left
                  · intro w'
                    go_simp
                    with_reducible rfl
                  rotate_left
                  · simp only [Act.put, List.setIfInBounds_toArray, List.set_cons_zero, List.set_cons_succ, i64_w, i32_w]
                    rfl
                  refine pure_ (i := 22) (N := some 59) (v := ?_) (a' := ?_) #[true, true, true, true, true, true, true, true, true, true, true, true, true, true, true, true, true, true, true, true, true, true, true, false, false, false, false, false, false, false, false, false, false, false, false, false] rfl rfl (any_of HT_.out (by kernel_rfl)) (fun _ _ _ h => h) (Or.inl ⟨by rfl, ?_⟩) ?_ ?_
                  rotate_left
                  · intro w'
                    go_simp
                    with_reducible rfl
                  rotate_left
                  · simp only [Act.put, List.setIfInBounds_toArray, List.set_cons_zero, List.set_cons_succ, i64_w, i32_w]
                    rfl
                  refine pure_ (i := 23) (N := some 60) (v := ?_) (a' := ?_) #[true, true, true, true, true, true, true, true, true, true, true, true, true, true, true, true, true, true, true, true, true, true, true, true, false, false, false, false, false, false, false, false, false, false, false, false] rfl rfl (any_of HT_.out (by kernel_rfl)) (fun _ _ _ h => h) (Or.inl ⟨by rfl, ?_⟩) ?_ ?_
                  rotate_left
                  · intro w'
                    go_simp
                    with_reducible rfl
                  rotate_left
                  · simp only [Act.put, List.setIfInBounds_toArray, List.set_cons_zero, List.set_cons_succ, i64_w, i32_w]
                    rfl
                  refine take_ (i := 24) (N := some 61) (v := ?_) (a' := ?_) #[true, true, true, true, true, true, true, true, true, true, true, true, true, true, true, true, true, true, true, true, true, true, true, true, true, false, false, false, false, false, false, false, false, false, false, false] rfl rfl (take_ofW HT_.out HW_.out (by kernel_rfl)) (fun _ _ _ h => h) (Or.inl ⟨by rfl, ?_⟩) hHeld ?_ ?_
                  rotate_left
                  · rintro w' ⟨s0, s1, s2, s3, s4, s5, s6, s7, s8, s9, s10, s11⟩
                    go_simp
                    with_reducible rfl
                  rotate_left
                  · simp only [Act.put, List.setIfInBounds_toArray, List.set_cons_zero, List.set_cons_succ, i64_w, i32_w]
                    rfl
                  refine take_ (i := 26) (N := some 63) (v := ?_) (a' := ?_) #[true, true, true, true, true, true, true, true, true, true, true, true, true, true, true, true, true, true, true, true, true, true, true, true, true, false, true, false, false, false, false, false, false, false, false, false] rfl rfl (take_ofW HT_.out HW_.out (by kernel_rfl)) (fun _ _ _ h => h) (Or.inl ⟨by rfl, ?_⟩) hHeld ?_ ?_
                  rotate_left
                  · rintro w' ⟨s0, s1, s2, s3, s4, s5, s6, s7, s8, s9, s10, s11⟩
                    go_simp
                    with_reducible rfl
                  rotate_left
                  · simp only [Act.put, List.setIfInBounds_toArray, List.set_cons_zero, List.set_cons_succ, i64_w, i32_w]
                    rfl
                  refine one_ (i := 25) (N := some 62) #[true, true, true, true, true, true, true, true, true, true, true, true, true, true, true, true, true, true, true, true, true, true, true, true, true, true, true, false, false, false, false, false, false, false, false, false] rfl rfl (one_of HT_.out (by kernel_rfl)) (by decide) (fun K hK => ?_)
                  refine goes_ Tryd.func18 (by kernel_rfl) rfl #[.agg #[.int .i64 a0_0, .int .i64 a0_1, .int .i64 a0_2, .int .u8 a0_3], .int .i64 0] (by rfl) rfl rfl (by (try simp only [List.map_toArray, List.map_cons, List.map_nil]); first | done | rfl | (simp only [List.length_drop, List.length_take]; rfl)) ?_
                  with_reducible refine (auto_Quiet.calls k1 a0_0 a0_1 a0_2 a0_3 0 t802 t803 t804 t805 _ ?side1 A39.out).mono ?_
                  (case side1 => exact (HGL.out.below (by repeat (first | (with_reducible first | exact HB.out | apply pA | apply pN | apply pD | refine pS ?_ GE777.out | refine pS ?_ GE784.out | refine pS ?_ GE785.out) | exact HB.out))))
                  rintro e w45 ⟨rfl, hb⟩
                  refine ⟨_, rfl, ?_⟩
                  have n0_ := Aside0.mk (blk_below (g := gb777) (o := .cells #[.int .i64 a0_0, .int .i64 a0_1, .int .i64 a0_2, .int .u8 a0_3] 23 (0, 0)) (by (with_reducible repeat (first | refine qN ?_ _ | refine qD ?_ | refine qA ?_ _)); exact BK777.out) hb)
                  have n1_ := Aside0.mk (blk_below (g := gb784) (o := .cells #[.int .i64 t780, .int .i64 t781, .int .i64 t782, .int .u8 t783] 23 (0, 0)) (by (with_reducible repeat (first | refine qN ?_ _ | refine qD ?_ | refine qA ?_ _)); exact BK784.out) hb)
                  have n2_ := Aside0.mk (blk_below (g := gb785) (o := .cells #[.int .i64 x786000_1, .int .i64 x786001_1, .int .i64 x786002_1, .int .u8 x786003_1] 23 (0, 0)) (by (with_reducible repeat (first | refine qN ?_ _ | refine qD ?_ | refine qA ?_ _)); exact BK785.out) hb)
                  have n3_ := Aside0.mk (below_step (by repeat (first | (with_reducible first | exact HB.out | apply pA | apply pN | apply pD | refine pS ?_ GE777.out | refine pS ?_ GE784.out | refine pS ?_ GE785.out) | exact HB.out)) hb)
                  clear BK777
                  clear BK784
                  clear BK785
                  clear HB
                  have BK777 := n0_
                  have BK784 := n1_
                  have BK785 := n2_
                  have HB := n3_
                  clear n0_ n1_ n2_ n3_
                  (try clear hb)
                  (try clear hb2)
                  (try clear hk)
                  (try clear hi)
                  refine hK.out _ _ ⟨(blk_cell BK784.out 0).trans rfl, (blk_cell BK784.out 1).trans rfl, (blk_cell BK784.out 2).trans rfl, (blk_cell BK784.out 3).trans rfl, (blk_cell BK785.out 0).trans rfl, (blk_cell BK785.out 1).trans rfl, (blk_cell BK785.out 2).trans rfl, (blk_cell BK785.out 3).trans rfl, (blk_cell BK777.out 0).trans rfl, (blk_cell BK777.out 1).trans rfl, (blk_cell BK777.out 2).trans rfl, (blk_cell BK777.out 3).trans rfl⟩ (fun hHeld => ?_)
                  clear hK K
                  refine norm_ (a' := ?_) ?_ ?_
                  rotate_left
                  · show Act.put _ (some 62) _ = _
                    simp only [Act.put, List.setIfInBounds_toArray, List.set_cons_zero, List.set_cons_succ, i64_w, i32_w]
                    rfl
                  refine pure_ (i := 27) (N := some 64) (v := ?_) (a' := ?_) #[true, true, true, true, true, true, true, true, true, true, true, true, true, true, true, true, true, true, true, true, true, true, true, true, true, true, true, true, false, false, false, false, false, false, false, false] rfl rfl (any_of HT_.out (by kernel_rfl)) (fun _ _ _ h => h) (Or.inl ⟨by rfl, ?_⟩) ?_ ?_
                  rotate_left
                  · intro w'
                    go_simp
                    with_reducible rfl
                  rotate_left
                  · simp only [Act.put, List.setIfInBounds_toArray, List.set_cons_zero, List.set_cons_succ, i64_w, i32_w]
                    rfl
                  refine pure_ (i := 28) (N := some 65) (v := ?_) (a' := ?_) #[true, true, true, true, true, true, true, true, true, true, true, true, true, true, true, true, true, true, true, true, true, true, true, true, true, true, true, true, true, false, false, false, false, false, false, false] rfl rfl (any_of HT_.out (by kernel_rfl)) (fun _ _ _ h => h) (Or.inl ⟨by rfl, ?_⟩) ?_ ?_
                  rotate_left
                  · intro w'
                    go_simp
                    with_reducible rfl
                  rotate_left
                  · simp only [Act.put, List.setIfInBounds_toArray, List.set_cons_zero, List.set_cons_succ, i64_w, i32_w]
                    rfl
                  refine pure_ (i := 29) (N := some 66) (v := ?_) (a' := ?_) #[true, true, true, true, true, true, true, true, true, true, true, true, true, true, true, true, true, true, true, true, true, true, true, true, true, true, true, true, true, true, false, false, false, false, false, false] rfl rfl (any_of HT_.out (by kernel_rfl)) (fun _ _ _ h => h) (Or.inl ⟨by rfl, ?_⟩) ?_ ?_
                  rotate_left
                  · intro w'
                    go_simp
                    with_reducible rfl
                  rotate_left
                  · simp only [Act.put, List.setIfInBounds_toArray, List.set_cons_zero, List.set_cons_succ, i64_w, i32_w]
                    rfl
                  refine take_ (i := 30) (N := some 67) (v := ?_) (a' := ?_) #[true, true, true, true, true, true, true, true, true, true, true, true, true, true, true, true, true, true, true, true, true, true, true, true, true, true, true, true, true, true, true, false, false, false, false, false] rfl rfl (take_ofW HT_.out HW_.out (by kernel_rfl)) (fun _ _ _ h => h) (Or.inl ⟨by rfl, ?_⟩) hHeld ?_ ?_
                  rotate_left
                  · rintro w' ⟨s0, s1, s2, s3, s4, s5, s6, s7, s8, s9, s10, s11⟩
                    go_simp
                    with_reducible rfl
                  rotate_left
                  · simp only [Act.put, List.setIfInBounds_toArray, List.set_cons_zero, List.set_cons_succ, i64_w, i32_w]
                    rfl
                  refine take_ (i := 32) (N := some 69) (v := ?_) (a' := ?_) #[true, true, true, true, true, true, true, true, true, true, true, true, true, true, true, true, true, true, true, true, true, true, true, true, true, true, true, true, true, true, true, false, true, false, false, false] rfl rfl (take_ofW HT_.out HW_.out (by kernel_rfl)) (fun _ _ _ h => h) (Or.inl ⟨by rfl, ?_⟩) hHeld ?_ ?_
                  rotate_left
                  · rintro w' ⟨s0, s1, s2, s3, s4, s5, s6, s7, s8, s9, s10, s11⟩
                    go_simp
                    with_reducible rfl
                  rotate_left
                  · simp only [Act.put, List.setIfInBounds_toArray, List.set_cons_zero, List.set_cons_succ, i64_w, i32_w]
                    rfl
                  refine one_ (i := 31) (N := some 68) #[true, true, true, true, true, true, true, true, true, true, true, true, true, true, true, true, true, true, true, true, true, true, true, true, true, true, true, true, true, true, true, true, true, false, false, false] rfl rfl (one_of HT_.out (by kernel_rfl)) (by decide) (fun K hK => ?_)
                  refine goes_ Tryd.func18 (by kernel_rfl) rfl #[.agg #[.int .i64 a0_0, .int .i64 a0_1, .int .i64 a0_2, .int .u8 a0_3], .int .i64 (-5)] (by rfl) rfl rfl (by (try simp only [List.map_toArray, List.map_cons, List.map_nil]); first | done | rfl | (simp only [List.length_drop, List.length_take]; rfl)) ?_
                  with_reducible refine (auto_Quiet.calls k1 a0_0 a0_1 a0_2 a0_3 (-5) t806 t807 t808 t809 _ ?side1 A41.out).mono ?_
                  (case side1 => exact (HGL.out.below (by repeat (first | (with_reducible first | exact HB.out | apply pA | apply pN | apply pD | refine pS ?_ GE777.out | refine pS ?_ GE784.out | refine pS ?_ GE785.out) | exact HB.out))))
                  rintro e w46 ⟨rfl, hb⟩
                  refine ⟨_, rfl, ?_⟩
                  have n0_ := Aside0.mk (blk_below (g := gb777) (o := .cells #[.int .i64 a0_0, .int .i64 a0_1, .int .i64 a0_2, .int .u8 a0_3] 23 (0, 0)) (by (with_reducible repeat (first | refine qN ?_ _ | refine qD ?_ | refine qA ?_ _)); exact BK777.out) hb)
                  have n1_ := Aside0.mk (blk_below (g := gb784) (o := .cells #[.int .i64 t780, .int .i64 t781, .int .i64 t782, .int .u8 t783] 23 (0, 0)) (by (with_reducible repeat (first | refine qN ?_ _ | refine qD ?_ | refine qA ?_ _)); exact BK784.out) hb)
                  have n2_ := Aside0.mk (blk_below (g := gb785) (o := .cells #[.int .i64 x786000_1, .int .i64 x786001_1, .int .i64 x786002_1, .int .u8 x786003_1] 23 (0, 0)) (by (with_reducible repeat (first | refine qN ?_ _ | refine qD ?_ | refine qA ?_ _)); exact BK785.out) hb)
                  have n3_ := Aside0.mk (below_step (by repeat (first | (with_reducible first | exact HB.out | apply pA | apply pN | apply pD | refine pS ?_ GE777.out | refine pS ?_ GE784.out | refine pS ?_ GE785.out) | exact HB.out)) hb)
                  clear BK777
                  clear BK784
                  clear BK785
                  clear HB
                  have BK777 := n0_
                  have BK784 := n1_
                  have BK785 := n2_
                  have HB := n3_
                  clear n0_ n1_ n2_ n3_
                  (try clear hb)
                  (try clear hb2)
                  (try clear hk)
                  (try clear hi)
                  refine hK.out _ _ ⟨(blk_cell BK784.out 0).trans rfl, (blk_cell BK784.out 1).trans rfl, (blk_cell BK784.out 2).trans rfl, (blk_cell BK784.out 3).trans rfl, (blk_cell BK785.out 0).trans rfl, (blk_cell BK785.out 1).trans rfl, (blk_cell BK785.out 2).trans rfl, (blk_cell BK785.out 3).trans rfl, (blk_cell BK777.out 0).trans rfl, (blk_cell BK777.out 1).trans rfl, (blk_cell BK777.out 2).trans rfl, (blk_cell BK777.out 3).trans rfl⟩ (fun hHeld => ?_)
                  clear hK K
                  refine norm_ (a' := ?_) ?_ ?_
                  rotate_left
                  · show Act.put _ (some 68) _ = _
                    simp only [Act.put, List.setIfInBounds_toArray, List.set_cons_zero, List.set_cons_succ, i64_w, i32_w]
                    rfl
                  refine pure_ (i := 33) (N := some 70) (v := ?_) (a' := ?_) #[true, true, true, true, true, true, true, true, true, true, true, true, true, true, true, true, true, true, true, true, true, true, true, true, true, true, true, true, true, true, true, true, true, true, false, false] rfl rfl (any_of HT_.out (by kernel_rfl)) (fun _ _ _ h => h) (Or.inl ⟨by rfl, ?_⟩) ?_ ?_
                  rotate_left
                  · intro w'
                    go_simp
                    with_reducible rfl
                  rotate_left
                  · simp only [Act.put, List.setIfInBounds_toArray, List.set_cons_zero, List.set_cons_succ, i64_w, i32_w]
                    rfl
                  refine pure_ (i := 34) (N := some 71) (v := ?_) (a' := ?_) #[true, true, true, true, true, true, true, true, true, true, true, true, true, true, true, true, true, true, true, true, true, true, true, true, true, true, true, true, true, true, true, true, true, true, true, false] rfl rfl (any_of HT_.out (by kernel_rfl)) (fun _ _ _ h => h) (Or.inl ⟨by rfl, ?_⟩) ?_ ?_
                  rotate_left
                  · intro w'
                    go_simp
                    with_reducible rfl
                  rotate_left
                  · simp only [Act.put, List.setIfInBounds_toArray, List.set_cons_zero, List.set_cons_succ, i64_w, i32_w]
                    rfl
                  refine pure_ (i := 35) (N := some 6) (v := ?_) (a' := ?_) #[true, true, true, true, true, true, true, true, true, true, true, true, true, true, true, true, true, true, true, true, true, true, true, true, true, true, true, true, true, true, true, true, true, true, true, true] rfl rfl (any_of HT_.out (by kernel_rfl)) (fun _ _ _ h => h) (Or.inl ⟨by rfl, ?_⟩) ?_ ?_
                  rotate_left
                  · intro w'
                    go_simp
                    with_reducible rfl
                  rotate_left
                  · simp only [Act.put, List.setIfInBounds_toArray, List.set_cons_zero, List.set_cons_succ, i64_w, i32_w]
                    rfl
                  refine done_ (done_of HT_.out (by kernel_rfl)) ?_
                  try go_wp2
                  go_ret
                  exact ⟨by first | rfl | (simp [errW_none, errW_some] <;> rfl) | (simp [*, errW_none, errW_some] <;> rfl), by repeat (first | (with_reducible first | exact HB.out | apply pA | apply pN | apply pD | refine pS ?_ GE777.out | refine pS ?_ GE784.out | refine pS ?_ GE785.out) | exact HB.out)⟩
                · rw [if_neg c40] at H
                  have c40b0 : (t802 == a0_0 && (t803 == a0_1 && (t804 == a0_2 && (t805 == a0_3)))) = false := by simpa using c40
                  (try (have c40b1 : decide (t802 = a0_0 && (t803 == a0_1 && (t804 == a0_2 && (t805 == a0_3)))) = false := by simpa using c40))
                  (try (have c40b2 : (t802 == a0_0 && (t803 == a0_1 && (t804 == a0_2 && (t805 == a0_3)))) = false := by simpa using c40))
                  (try (have c40b3 : ¬ (t802 = a0_0 && (t803 == a0_1 && (t804 == a0_2 && (t805 == a0_3)))) := by simpa using c40))
                  clear c40
                  exact absurd ((Option.some.inj H).trans hlaw_.out) (by decide)
              · rw [if_neg c38] at H
                have c38b0 : (t794 == t798 && (t795 == t799 && (t796 == t800 && (t797 == t801)))) = false := by simpa using c38
                (try (have c38b1 : decide (t794 = t798 && (t795 == t799 && (t796 == t800 && (t797 == t801)))) = false := by simpa using c38))
                (try (have c38b2 : (t794 == t798 && (t795 == t799 && (t796 == t800 && (t797 == t801)))) = false := by simpa using c38))
                (try (have c38b3 : ¬ (t794 = t798 && (t795 == t799 && (t796 == t800 && (t797 == t801)))) := by simpa using c38))
                clear c38
                exact absurd ((Option.some.inj H).trans hlaw_.out) (by decide)
            · rw [if_neg c35] at H
              have c35b0 : (t780 == x786000_1 && (t781 == x786001_1 && (t782 == x786002_1 && (t783 == x786003_1)))) = false := by simpa using c35
              (try (have c35b1 : decide (t780 = x786000_1 && (t781 == x786001_1 && (t782 == x786002_1 && (t783 == x786003_1)))) = false := by simpa using c35))
              (try (have c35b2 : (t780 == x786000_1 && (t781 == x786001_1 && (t782 == x786002_1 && (t783 == x786003_1)))) = false := by simpa using c35))
              (try (have c35b3 : ¬ (t780 = x786000_1 && (t781 == x786001_1 && (t782 == x786002_1 && (t783 == x786003_1)))) := by simpa using c35))
              clear c35
              exact absurd ((Option.some.inj H).trans hlaw_.out) (by decide)
          · replace c34 := Bool.eq_false_iff.mpr c34
            subst c34
            have H1 : (some false) = some r := by rw [if_neg (show ¬ (false = true) by decide)] at H; exact H
            clear H
            have H := H1
            clear H1
            exact absurd ((Option.some.inj H).trans hlaw_.out) (by decide)
  · replace c6 := Bool.eq_false_iff.mpr c6
    subst c6
    have H1 : (some t778) = some r := by rw [if_neg (show ¬ (false = true) by decide)] at H; exact H
    clear H
    have H := H1
    clear H1
    clear hlaw_
    obtain rfl := Option.some.inj H
    go_enter Tryd.func7, Tryd.ntmps7
    go_wp2_with (first | ((with_reducible refine gate_dst (N := 3) rfl ?_); refine box_event ?hg (N := 3) ?hd (cs := #[.int .i64 a0_0, .int .i64 a0_1, .int .i64 a0_2, .int .u8 a0_3]) (t := 23) ?hr ?_; (case hd => rfl); (case hg => rfl); (case hr => first | (go_simp; done) | (go_simp; rfl)); intro gb777 hg w47 hbox hb; have n0_ := Aside0.mk (below_step (by repeat (first | (with_reducible first | exact HB.out | apply pA | apply pN | apply pD) | exact HB.out)) hb); have n1_ := Aside0.mk (hbox); have n2_ := Aside0.mk ((by rw [hg]; exact (below_size (by repeat (first | (with_reducible first | exact HB.out | apply pA | apply pN | apply pD) | exact HB.out))) : w.heap.size ≤ gb777)); have n3_ := Aside0.mk ((by rw [hg]; exact (below_size (by repeat (first | (with_reducible first | exact HB.out | apply pA | apply pN | apply pD) | exact HB.out))) : w.heap.size ≤ gb777)); clear HB; have HB := n0_; have BK777 := n1_; have GW777 := n2_; have GE777 := n3_; clear n0_ n1_ n2_ n3_; clear hb hbox hg) | ((with_reducible refine gate_callee (f := 9) rfl ?_); refine goesL_ (some 13) rfl rfl Tryd.func9 (by kernel_rfl) rfl #[] rfl (by (try simp only [List.map_toArray, List.map_cons, List.map_nil]); first | done | rfl | (simp only [List.length_drop, List.length_take]; rfl)) ?_; (with_reducible refine (portreevelaw12_shown.calls k  t778 _ ?side1 A4.out).mono ?_); (case side1 => exact (HGL.out.below (by repeat (first | (with_reducible first | exact HB.out | apply pA | apply pN | apply pD | refine pS ?_ GE777.out) | exact HB.out)))); rintro e w48 ⟨rfl, hb⟩; refine ⟨_, rfl, ?_⟩; have n0_ := Aside0.mk (blk_below (g := gb777) (o := .cells #[.int .i64 a0_0, .int .i64 a0_1, .int .i64 a0_2, .int .u8 a0_3] 23 (0, 0)) (by (with_reducible repeat (first | refine qN ?_ _ | refine qD ?_ | refine qA ?_ _)); exact BK777.out) hb); have n1_ := Aside0.mk (below_step (by repeat (first | (with_reducible first | exact HB.out | apply pA | apply pN | apply pD | refine pS ?_ GE777.out) | exact HB.out)) hb); clear BK777; clear HB; have BK777 := n0_; have HB := n1_; clear n0_ n1_; (try clear hb); (try clear hb2); (try clear hk); (try clear hi); have hcz49_0 : w48.cell? ⟨gb777, 0, none⟩ = some (.int .i64 a0_0) := (blk_cell BK777.out 0).trans rfl; have hcz49_1 : w48.cell? ⟨gb777, 1, none⟩ = some (.int .i64 a0_1) := (blk_cell BK777.out 1).trans rfl; have hcz49_2 : w48.cell? ⟨gb777, 2, none⟩ = some (.int .i64 a0_2) := (blk_cell BK777.out 2).trans rfl; have hcz49_3 : w48.cell? ⟨gb777, 3, none⟩ = some (.int .u8 a0_3) := (blk_cell BK777.out 3).trans rfl; have hfz49_0 := blk_frozen BK777.out 0; have hfz49_1 := blk_frozen BK777.out 1; have hfz49_2 := blk_frozen BK777.out 2; have hfz49_3 := blk_frozen BK777.out 3) | ((with_reducible refine gate_callee (f := 10) rfl ?_); refine goesL_ (some 15) rfl rfl Tryd.func10 (by kernel_rfl) rfl #[.agg #[.int .i64 a0_0, .int .i64 a0_1, .int .i64 a0_2, .int .u8 a0_3]] rfl (by (try simp only [List.map_toArray, List.map_cons, List.map_nil]); first | done | rfl | (simp only [List.length_drop, List.length_take]; rfl)) ?_; (with_reducible refine (portreeveref12_Right.calls k a0_0 a0_1 a0_2 a0_3 false _ A5.out).mono ?_); rintro e w50 ⟨rfl, hb⟩; refine ⟨_, rfl, ?_⟩; have n0_ := Aside0.mk (blk_below (g := gb777) (o := .cells #[.int .i64 a0_0, .int .i64 a0_1, .int .i64 a0_2, .int .u8 a0_3] 23 (0, 0)) (by (with_reducible repeat (first | refine qN ?_ _ | refine qD ?_ | refine qA ?_ _)); exact BK777.out) hb); have n1_ := Aside0.mk (below_step (by repeat (first | (with_reducible first | exact HB.out | apply pA | apply pN | apply pD | refine pS ?_ GE777.out) | exact HB.out)) hb); clear BK777; clear HB; have BK777 := n0_; have HB := n1_; clear n0_ n1_; (try clear hb); (try clear hb2); (try clear hk); (try clear hi)))
    go_ret
    exact ⟨by first | rfl | (simp [errW_none, errW_some] <;> rfl) | (simp [*, errW_none, errW_some] <;> rfl), by repeat (first | (with_reducible first | exact HB.out | apply pA | apply pN | apply pD | refine pS ?_ GE777.out) | exact HB.out)⟩

end Go.Proofs.YtoenogjedmnnlaaDoor.Q

-- written by this session's own program (wip/tools/myprint.py), over the kit's print
import Derived.Test.YtoenogjedmnnlaaDoorQx0
import Derived.Test.YtoenogjedmnnlaaDoorQx1
import Derived.Test.YtoenogjedmnnlaaDoorQx2
import Derived.Test.YtoenogjedmnnlaaDoorQx4
import Derived.Test.YtoenogjedmnnlaaDoorQx5
import Derived.Test.YtoenogjedmnnlaaDoorQx6
namespace Go.Proofs.YtoenogjedmnnlaaDoor.Q
open Go.RowKit Go.Proofs.YtoenogjedmnnlaaDoorW.PrintWords Go.Proofs.YtoenogjedmnnlaaDoorW.PrintLast Go.Proofs.YtoenogjedmnnlaaDoorW.PrintMore
open Go.Proofs.YtoenogjedmnnlaaDoorV Go.Proofs.YtoenogjedmnnlaaDoorG
attribute [local go_sem] max2_int min2_int max_two min_two max_three min_three max_four min_four   -- for this text's walks alone
set_option linter.unusedVariables false
set_option linter.unusedSimpArgs false

attribute [local go_sem high] eqA23
/-! ### portreevelaw12_AutoRight: function 4 -/
mutual
def portreevelaw12_AutoRight.j0 : Nat → List Int → Bool → Bool → Int → Int → Int → Int → Option (Bool)
  | 0, _, _, _, _, _, _, _ => none
  | k + 1, x1, x5, x20, x710000, x710001, x710002, x710003 => if x20 = true then (some x5) else (portreevelaw12_AutoRight.l0 k x1 x5 0 x710000 x710001 x710002 x710003)
def portreevelaw12_AutoRight.l0 : Nat → List Int → Bool → Int → Int → Int → Int → Int → Option (Bool)
  | 0, _, _, _, _, _, _, _ => none
  | k + 1, x1, x5, x6, x710000, x710001, x710002, x710003 => if x6 < (x1.length : Int) then (if 0 ≤ x6 then ((auto_Do.f x710000 x710001 x710002 x710003 (rd x1 x6)).bind fun bt714 => (if bt714.2.2.2.2.2 = 0 then (portreevelaw12_AutoRight.j2 k x1 x5 x6 bt714.1 bt714.2.1 bt714.2.2.1 bt714.2.2.2.1) else (if (!(bt714.1 == x710000) || (!(bt714.2.1 == x710001) || (!(bt714.2.2.1 == x710002) || (!(bt714.2.2.2.1 == x710003))))) = true then (some false) else ((auto_Tick.f x710000 x710001 x710002 x710003).bind fun bt723 => (portreevelaw12_AutoRight.j2 k x1 x5 x6 bt723.1 bt723.2.1 bt723.2.2.1 bt723.2.2.2.1))))) else (none)) else (if x5 = true then ((auto_Right.f k x710000 x710001 x710002 x710003).bind fun t712 => (some t712)) else (some false))
def portreevelaw12_AutoRight.j2 : Nat → List Int → Bool → Int → Int → Int → Int → Int → Option (Bool)
  | 0, _, _, _, _, _, _, _ => none
  | k + 1, x1, x5, x6, x723000, x723001, x723002, x723003 => (portreeveref12_Right.f k x723000 x723001 x723002 x723003).bind fun t731 => (if t731 = true then (portreevelaw12_AutoRight.l0 k x1 x5 (wrap64 (x6 + 1)) x723000 x723001 x723002 x723003) else (some false))
end
def portreevelaw12_AutoRight.f (k : Nat) (a0_0 : Int) (a0_1 : Int) (a0_2 : Int) (a0_3 : Int) (l1 : List Int) : Option (Bool) := (portreevelaw12_shown.f k).bind fun t710 => ((portreeveref12_Right.f k a0_0 a0_1 a0_2 a0_3).bind fun t711 => (if t711 = true then (portreevelaw12_AutoRight.j0 k l1 t710 (decide ((l1.length : Int) > 200)) a0_0 a0_1 a0_2 a0_3) else (portreevelaw12_AutoRight.j0 k l1 t710 true a0_0 a0_1 a0_2 a0_3)))
theorem portreevelaw12_AutoRight.mono_l : ∀ k, (∀ y0 y1 y2 y3 y4 y5 y6, LeO (portreevelaw12_AutoRight.j0 k y0 y1 y2 y3 y4 y5 y6) (portreevelaw12_AutoRight.j0 (k + 1) y0 y1 y2 y3 y4 y5 y6)) ∧ (∀ y0 y1 y2 y3 y4 y5 y6, LeO (portreevelaw12_AutoRight.l0 k y0 y1 y2 y3 y4 y5 y6) (portreevelaw12_AutoRight.l0 (k + 1) y0 y1 y2 y3 y4 y5 y6)) ∧ (∀ y0 y1 y2 y3 y4 y5 y6, LeO (portreevelaw12_AutoRight.j2 k y0 y1 y2 y3 y4 y5 y6) (portreevelaw12_AutoRight.j2 (k + 1) y0 y1 y2 y3 y4 y5 y6))
  | 0 => ⟨fun _ _ _ _ _ _ _ r h => by simp [portreevelaw12_AutoRight.j0] at h, fun _ _ _ _ _ _ _ r h => by simp [portreevelaw12_AutoRight.l0] at h, fun _ _ _ _ _ _ _ r h => by simp [portreevelaw12_AutoRight.j2] at h⟩
  | k + 1 => by
    obtain ⟨ih0, ih1, ih2⟩ := portreevelaw12_AutoRight.mono_l k
    refine ⟨?_, ?_, ?_⟩
    · intro y0 y1 y2 y3 y4 y5 y6
      unfold portreevelaw12_AutoRight.j0
      repeat' first
      | (with_reducible exact ih0 _ _ _ _ _ _ _)
      | (with_reducible exact ih1 _ _ _ _ _ _ _)
      | (with_reducible exact ih2 _ _ _ _ _ _ _)
      | (with_reducible exact auto_Right.mono _ _ _ _ _)
      | (with_reducible exact portreevelaw12_shown.mono _)
      | (with_reducible exact portreeveref12_Right.mono _ _ _ _ _)
      | (with_reducible exact LeO.refl _)
      | (with_reducible exact LeO.none _)
      | (with_reducible refine LeO.ite ?_ ?_)
      | (with_reducible refine LeO.bind ?_ (fun _ => ?_))
      | exact ih0 _ _ _ _ _ _ _
      | exact ih1 _ _ _ _ _ _ _
      | exact ih2 _ _ _ _ _ _ _
      | exact auto_Right.mono _ _ _ _ _
      | exact portreevelaw12_shown.mono _
      | exact portreeveref12_Right.mono _ _ _ _ _
      | exact LeO.none _
      | refine LeO.ite ?_ ?_
      | refine LeO.bind ?_ (fun _ => ?_)
    · intro y0 y1 y2 y3 y4 y5 y6
      unfold portreevelaw12_AutoRight.l0
      repeat' first
      | (with_reducible exact ih0 _ _ _ _ _ _ _)
      | (with_reducible exact ih1 _ _ _ _ _ _ _)
      | (with_reducible exact ih2 _ _ _ _ _ _ _)
      | (with_reducible exact auto_Right.mono _ _ _ _ _)
      | (with_reducible exact portreevelaw12_shown.mono _)
      | (with_reducible exact portreeveref12_Right.mono _ _ _ _ _)
      | (with_reducible exact LeO.refl _)
      | (with_reducible exact LeO.none _)
      | (with_reducible refine LeO.ite ?_ ?_)
      | (with_reducible refine LeO.bind ?_ (fun _ => ?_))
      | exact ih0 _ _ _ _ _ _ _
      | exact ih1 _ _ _ _ _ _ _
      | exact ih2 _ _ _ _ _ _ _
      | exact auto_Right.mono _ _ _ _ _
      | exact portreevelaw12_shown.mono _
      | exact portreeveref12_Right.mono _ _ _ _ _
      | exact LeO.none _
      | refine LeO.ite ?_ ?_
      | refine LeO.bind ?_ (fun _ => ?_)
    · intro y0 y1 y2 y3 y4 y5 y6
      unfold portreevelaw12_AutoRight.j2
      repeat' first
      | (with_reducible exact ih0 _ _ _ _ _ _ _)
      | (with_reducible exact ih1 _ _ _ _ _ _ _)
      | (with_reducible exact ih2 _ _ _ _ _ _ _)
      | (with_reducible exact auto_Right.mono _ _ _ _ _)
      | (with_reducible exact portreevelaw12_shown.mono _)
      | (with_reducible exact portreeveref12_Right.mono _ _ _ _ _)
      | (with_reducible exact LeO.refl _)
      | (with_reducible exact LeO.none _)
      | (with_reducible refine LeO.ite ?_ ?_)
      | (with_reducible refine LeO.bind ?_ (fun _ => ?_))
      | exact ih0 _ _ _ _ _ _ _
      | exact ih1 _ _ _ _ _ _ _
      | exact ih2 _ _ _ _ _ _ _
      | exact auto_Right.mono _ _ _ _ _
      | exact portreevelaw12_shown.mono _
      | exact portreeveref12_Right.mono _ _ _ _ _
      | exact LeO.none _
      | refine LeO.ite ?_ ?_
      | refine LeO.bind ?_ (fun _ => ?_)
theorem portreevelaw12_AutoRight.mono : ∀ a0 a1 a2 a3 a4 k, LeO (portreevelaw12_AutoRight.f k a0 a1 a2 a3 a4) (portreevelaw12_AutoRight.f (k + 1) a0 a1 a2 a3 a4) := by
  intro a0 a1 a2 a3 a4 k
  obtain ⟨ih0, ih1, ih2⟩ := portreevelaw12_AutoRight.mono_l k
  unfold portreevelaw12_AutoRight.f
  repeat' first
      | (with_reducible exact ih0 _ _ _ _ _ _ _)
      | (with_reducible exact ih1 _ _ _ _ _ _ _)
      | (with_reducible exact ih2 _ _ _ _ _ _ _)
      | (with_reducible exact auto_Right.mono _ _ _ _ _)
      | (with_reducible exact portreevelaw12_shown.mono _)
      | (with_reducible exact portreeveref12_Right.mono _ _ _ _ _)
      | (with_reducible exact LeO.refl _)
      | (with_reducible exact LeO.none _)
      | (with_reducible refine LeO.ite ?_ ?_)
      | (with_reducible refine LeO.bind ?_ (fun _ => ?_))
      | exact ih0 _ _ _ _ _ _ _
      | exact ih1 _ _ _ _ _ _ _
      | exact ih2 _ _ _ _ _ _ _
      | exact auto_Right.mono _ _ _ _ _
      | exact portreevelaw12_shown.mono _
      | exact portreeveref12_Right.mono _ _ _ _ _
      | exact LeO.none _
      | refine LeO.ite ?_ ?_
      | refine LeO.bind ?_ (fun _ => ?_)
def portreevelaw12_AutoRight.T7 : Bool × List (List Nat × List Nat) := (true, [([], []), ([], []), ([], []), ([1, 2], [1, 2]), ([3], [3]), ([0, 4], [0, 4]), ([5], [5]), ([6], [6]), ([6], [6]), ([6], [6]), ([], []), ([10, 7, 5, 0, 1, 2, 3, 4, 5, 6, 7, 10], [7, 10]), ([8, 11, 0, 1, 2, 3, 4, 5, 6, 7, 8, 10, 11], [8]), ([9, 12, 0, 1, 2, 3, 4, 5, 6, 7, 8, 9, 10, 11, 12], [9])])
def portreevelaw12_AutoRight.B7 : List Nat := [0, 0, 0, 6, 14, 31, 63, 127, 127, 127, 0, 1279, 3583, 8191]
theorem portreevelaw12_AutoRight.tab7 : rtab .any (opsOf Tryd.f4 7) = portreevelaw12_AutoRight.T7 := by kernel_rfl
theorem portreevelaw12_AutoRight.bits7 : waitsOk portreevelaw12_AutoRight.T7.2 portreevelaw12_AutoRight.B7 = true := by kernel_rfl
set_option maxHeartbeats 8000000 in
set_option maxRecDepth 100000 in
theorem portreevelaw12_AutoRight.calls (k : Nat) (a0_0 : Int) (a0_1 : Int) (a0_2 : Int) (a0_3 : Int) (A1 : Option Addr) (c1 : Nat) (l1 : List Int) (r : Bool) (w : World) (hlaw_ : Aside0 (r = true)) (hr1 : Kd.C (Kd.int .i64) w A1 l1.length l1) (hc1 : l1.length ≤ c1) (hgl : Gl w) (h : portreevelaw12_AutoRight.f k a0_0 a0_1 a0_2 a0_3 l1 = some r) :
    Calls Tryd.prog 4 #[.agg #[.int .i64 a0_0, .int .i64 a0_1, .int .i64 a0_2, .int .u8 a0_3], .slice A1 l1.length c1] w fun e w' => e = .returned (.bool r) ∧ Below w.heap.size w w' := by
  have hu23 := Tryd.underlying23
  have HR1 := Aside0.mk hr1
  have HC1 := Aside0.mk hc1
  clear hr1 hc1
  have HB := Aside0.mk (Below.refl w.heap.size w)
  have HGL := Aside0.mk hgl
  clear hgl
  have H : ((portreevelaw12_shown.f k).bind fun t710 => ((portreeveref12_Right.f k a0_0 a0_1 a0_2 a0_3).bind fun t711 => (if t711 = true then (portreevelaw12_AutoRight.j0 k l1 t710 (decide ((l1.length : Int) > 200)) a0_0 a0_1 a0_2 a0_3) else (portreevelaw12_AutoRight.j0 k l1 t710 true a0_0 a0_1 a0_2 a0_3)))) = some r := h
  clear h
  replace H := Option.bind_eq_some_iff.mp H
  obtain ⟨t710, A30, H⟩ := H
  replace H : ((portreeveref12_Right.f k a0_0 a0_1 a0_2 a0_3).bind fun t711 => (if t711 = true then (portreevelaw12_AutoRight.j0 k l1 t710 (decide ((l1.length : Int) > 200)) a0_0 a0_1 a0_2 a0_3) else (portreevelaw12_AutoRight.j0 k l1 t710 true a0_0 a0_1 a0_2 a0_3))) = some r := H
  have A3 := Aside0.mk A30
  clear A30
  have HC4 := Aside0.mk H
  clear H
  go_enter Tryd.func4, Tryd.ntmps4
  go_upto_region 2 with (first | ((with_reducible refine gate_dst (N := 2) rfl ?_); (try (refine gate_guard (by rfl) ?_; dsimp only)); refine box_event ?hg (N := 2) ?hd (cs := #[.int .i64 a0_0, .int .i64 a0_1, .int .i64 a0_2, .int .u8 a0_3]) (t := 23) ?hr ?_; (case hd => rfl); (case hg => rfl); (case hr => first | (go_simp; done) | (go_simp; rfl)); intro gb709 hg w5 hbox hb; have n0_ := Aside0.mk (below_step (by repeat (first | (with_reducible first | exact HB.out | apply pA | apply pN | apply pD) | exact HB.out)) hb); have n1_ := Aside0.mk (hbox); have n2_ := Aside0.mk ((by rw [hg]; exact (below_size (by repeat (first | (with_reducible first | exact HB.out | apply pA | apply pN | apply pD) | exact HB.out))) : w.heap.size ≤ gb709)); have n3_ := Aside0.mk ((by rw [hg]; exact (below_size (by repeat (first | (with_reducible first | exact HB.out | apply pA | apply pN | apply pD) | exact HB.out))) : w.heap.size ≤ gb709)); clear HB; have HB := n0_; have BK709 := n1_; have GW709 := n2_; have GE709 := n3_; clear n0_ n1_ n2_ n3_; clear hb hbox hg) | ((with_reducible refine gate_callee (f := 9) rfl ?_); refine goesL_ (some 12) rfl rfl Tryd.func9 (by kernel_rfl) rfl #[] rfl (by (try simp only [List.map_toArray, List.map_cons, List.map_nil]); first | done | rfl | (simp only [List.length_drop, List.length_take]; rfl)) ?_; (with_reducible refine (portreevelaw12_shown.calls k  t710 _ ?side1 A3.out).mono ?_); (case side1 => exact (HGL.out.below (by repeat (first | (with_reducible first | exact HB.out | apply pA | apply pN | apply pD | refine pS ?_ GE709.out) | exact HB.out)))); rintro e w6 ⟨rfl, hb⟩; refine ⟨_, rfl, ?_⟩; have n0_ := Aside0.mk (blk_below (g := gb709) (o := .cells #[.int .i64 a0_0, .int .i64 a0_1, .int .i64 a0_2, .int .u8 a0_3] 23 (0, 0)) (by (with_reducible repeat (first | refine qN ?_ _ | refine qD ?_ | refine qA ?_ _)); exact BK709.out) hb); have n1_ := Aside0.mk (below_step (by repeat (first | (with_reducible first | exact HB.out | apply pA | apply pN | apply pD | refine pS ?_ GE709.out) | exact HB.out)) hb); clear BK709; clear HB; have BK709 := n0_; have HB := n1_; clear n0_ n1_; (try clear hb); (try clear hb2); (try clear hk); (try clear hi)))
  (try simp only [Act.put, List.setIfInBounds_toArray, List.set_cons_zero, List.set_cons_succ])
  go_cut [20] (fun v20 wc => ∃ (kq : Nat) (x20_3 : Bool), v20 = .bool x20_3 ∧ Aside0 (portreevelaw12_AutoRight.j0 kq l1 t710 x20_3 a0_0 a0_1 a0_2 a0_3 = some r) ∧ Aside0 (kq ≤ k) ∧ Aside0 (wc.heap[gb709]? = some (.cells #[.int .i64 a0_0, .int .i64 a0_1, .int .i64 a0_2, .int .u8 a0_3] 23 (0, 0))) ∧ Aside0 (Below w.heap.size w wc))
  case first =>
    have H := HC4.out
    clear HC4
    replace H := Option.bind_eq_some_iff.mp H
    obtain ⟨t711, A70, H⟩ := H
    replace H : (if t711 = true then (portreevelaw12_AutoRight.j0 k l1 t710 (decide ((l1.length : Int) > 200)) a0_0 a0_1 a0_2 a0_3) else (portreevelaw12_AutoRight.j0 k l1 t710 true a0_0 a0_1 a0_2 a0_3)) = some r := H
    have A7 := Aside0.mk A70
    clear A70
    by_cases c8 : t711 = true
    · subst c8
      have H1 : (portreevelaw12_AutoRight.j0 k l1 t710 (decide ((l1.length : Int) > 200)) a0_0 a0_1 a0_2 a0_3) = some r := by rw [if_pos rfl] at H; exact H
      clear H
      have H := H1
      clear H1
      have H' := Aside0.mk H
      clear H
      have hcz9_0 : w6.cell? ⟨gb709, 0, none⟩ = some (.int .i64 a0_0) := (blk_cell BK709.out 0).trans rfl
      have hcz9_1 : w6.cell? ⟨gb709, 1, none⟩ = some (.int .i64 a0_1) := (blk_cell BK709.out 1).trans rfl
      have hcz9_2 : w6.cell? ⟨gb709, 2, none⟩ = some (.int .i64 a0_2) := (blk_cell BK709.out 2).trans rfl
      have hcz9_3 : w6.cell? ⟨gb709, 3, none⟩ = some (.int .u8 a0_3) := (blk_cell BK709.out 3).trans rfl
      have hfz9_0 := blk_frozen BK709.out 0
      have hfz9_1 := blk_frozen BK709.out 1
      have hfz9_2 := blk_frozen BK709.out 2
      have hfz9_3 := blk_frozen BK709.out 3
      go_wp2_with (first | ((with_reducible refine gate_callee (f := 10) rfl ?_); refine goesL_ (some 14) rfl rfl Tryd.func10 (by kernel_rfl) rfl #[.agg #[.int .i64 a0_0, .int .i64 a0_1, .int .i64 a0_2, .int .u8 a0_3]] rfl (by (try simp only [List.map_toArray, List.map_cons, List.map_nil]); first | done | rfl | (simp only [List.length_drop, List.length_take]; rfl)) ?_; (with_reducible refine (portreeveref12_Right.calls k a0_0 a0_1 a0_2 a0_3 true _ A7.out).mono ?_); rintro e w10 ⟨rfl, hb⟩; refine ⟨_, rfl, ?_⟩; have n0_ := Aside0.mk (blk_below (g := gb709) (o := .cells #[.int .i64 a0_0, .int .i64 a0_1, .int .i64 a0_2, .int .u8 a0_3] 23 (0, 0)) (by (with_reducible repeat (first | refine qN ?_ _ | refine qD ?_ | refine qA ?_ _)); exact BK709.out) hb); have n1_ := Aside0.mk (below_step (by repeat (first | (with_reducible first | exact HB.out | apply pA | apply pN | apply pD | refine pS ?_ GE709.out) | exact HB.out)) hb); clear BK709; clear HB; have BK709 := n0_; have HB := n1_; clear n0_ n1_; (try clear hb); (try clear hb2); (try clear hk); (try clear hi)))
      go_meet
      case rel => exact ⟨_, (decide ((l1.length : Int) > 200)), (by first | rfl | (simp; done) | (simp [*]; done)), H', ⟨by first | omega | exact Nat.le_refl _⟩, ⟨by (with_reducible repeat (first | refine qN ?_ _ | refine qD ?_ | refine qA ?_ _)); exact BK709.out⟩, ⟨by repeat (first | (with_reducible first | exact HB.out | apply pA | apply pN | apply pD | refine pS ?_ GE709.out) | exact HB.out)⟩⟩
    · replace c8 := Bool.eq_false_iff.mpr c8
      subst c8
      have H1 : (portreevelaw12_AutoRight.j0 k l1 t710 true a0_0 a0_1 a0_2 a0_3) = some r := by rw [if_neg (show ¬ (false = true) by decide)] at H; exact H
      clear H
      have H := H1
      clear H1
      have H' := Aside0.mk H
      clear H
      have hcz11_0 : w6.cell? ⟨gb709, 0, none⟩ = some (.int .i64 a0_0) := (blk_cell BK709.out 0).trans rfl
      have hcz11_1 : w6.cell? ⟨gb709, 1, none⟩ = some (.int .i64 a0_1) := (blk_cell BK709.out 1).trans rfl
      have hcz11_2 : w6.cell? ⟨gb709, 2, none⟩ = some (.int .i64 a0_2) := (blk_cell BK709.out 2).trans rfl
      have hcz11_3 : w6.cell? ⟨gb709, 3, none⟩ = some (.int .u8 a0_3) := (blk_cell BK709.out 3).trans rfl
      have hfz11_0 := blk_frozen BK709.out 0
      have hfz11_1 := blk_frozen BK709.out 1
      have hfz11_2 := blk_frozen BK709.out 2
      have hfz11_3 := blk_frozen BK709.out 3
      go_wp2_with (first | ((with_reducible refine gate_callee (f := 10) rfl ?_); refine goesL_ (some 14) rfl rfl Tryd.func10 (by kernel_rfl) rfl #[.agg #[.int .i64 a0_0, .int .i64 a0_1, .int .i64 a0_2, .int .u8 a0_3]] rfl (by (try simp only [List.map_toArray, List.map_cons, List.map_nil]); first | done | rfl | (simp only [List.length_drop, List.length_take]; rfl)) ?_; (with_reducible refine (portreeveref12_Right.calls k a0_0 a0_1 a0_2 a0_3 false _ A7.out).mono ?_); rintro e w12 ⟨rfl, hb⟩; refine ⟨_, rfl, ?_⟩; have n0_ := Aside0.mk (blk_below (g := gb709) (o := .cells #[.int .i64 a0_0, .int .i64 a0_1, .int .i64 a0_2, .int .u8 a0_3] 23 (0, 0)) (by (with_reducible repeat (first | refine qN ?_ _ | refine qD ?_ | refine qA ?_ _)); exact BK709.out) hb); have n1_ := Aside0.mk (below_step (by repeat (first | (with_reducible first | exact HB.out | apply pA | apply pN | apply pD | refine pS ?_ GE709.out) | exact HB.out)) hb); clear BK709; clear HB; have BK709 := n0_; have HB := n1_; clear n0_ n1_; (try clear hb); (try clear hb2); (try clear hk); (try clear hi)))
      go_meet
      case rel => exact ⟨_, (true), (by first | rfl | (simp; done) | (simp [*]; done)), H', ⟨by first | omega | exact Nat.le_refl _⟩, ⟨by (with_reducible repeat (first | refine qN ?_ _ | refine qD ?_ | refine qA ?_ _)); exact BK709.out⟩, ⟨by repeat (first | (with_reducible first | exact HB.out | apply pA | apply pN | apply pD | refine pS ?_ GE709.out) | exact HB.out)⟩⟩
  case rest =>
    clear HC4
    try clear c1
    try clear p2
    try clear c4
    try clear c8
    try clear c9
    try clear c10
    try clear hcz11_0
    try clear hcz11_1
    try clear hcz11_2
    try clear hcz11_3
    try clear hcz9_0
    try clear hcz9_1
    try clear hcz9_2
    try clear hcz9_3
    try clear hfz11_0
    try clear hfz11_1
    try clear hfz11_2
    try clear hfz11_3
    try clear hfz9_0
    try clear hfz9_1
    try clear hfz9_2
    try clear hfz9_3
    obtain ⟨kq, x20_3, rfl, HA, HJ3, BK709, HB⟩ := hcut
    cases kq with
    | zero => exact absurd HA.out (by simp [portreevelaw12_AutoRight.j0])
    | succ kj3 =>
      have H := HA.out
      clear HA
      simp only [portreevelaw12_AutoRight.j0] at H
      by_cases c13 : x20_3 = true
      · subst c13
        have H1 : (some t710) = some r := by rw [if_pos rfl] at H; exact H
        clear H
        have H := H1
        clear H1
        clear hlaw_
        obtain rfl := Option.some.inj H
        go_wp2
        go_ret
        exact ⟨by first | rfl | (simp [errW_none, errW_some] <;> rfl) | (simp [*, errW_none, errW_some] <;> rfl), by repeat (first | (with_reducible first | exact HB.out | apply pA | apply pN | apply pD | refine pS ?_ GE709.out) | exact HB.out)⟩
      · replace c13 := Bool.eq_false_iff.mpr c13
        subst c13
        have H1 : (portreevelaw12_AutoRight.l0 kj3 l1 t710 0 a0_0 a0_1 a0_2 a0_3) = some r := by rw [if_neg (show ¬ (false = true) by decide)] at H; exact H
        clear H
        have H := H1
        clear H1
        have H' := Aside0.mk H
        clear H
        go_wp2
        go_loopg [6] kj3 (fun kq v6 w' => ∃ (x6_2 : Int) (x710000_2 : Int) (x710001_2 : Int) (x710002_2 : Int) (x710003_2 : Int), v6 = .int .i64 x6_2 ∧ Aside0 (portreevelaw12_AutoRight.l0 kq l1 t710 x6_2 x710000_2 x710001_2 x710002_2 x710003_2 = some r) ∧ Aside0 (kq ≤ kj3) ∧ Aside0 (w'.heap[gb709]? = some (.cells #[.int .i64 x710000_2, .int .i64 x710001_2, .int .i64 x710002_2, .int .u8 x710003_2] 23 (0, 0))) ∧ Aside0 (Below w.heap.size w w'))
        case atStart => exact ⟨(0), (a0_0), (a0_1), (a0_2), (a0_3), (by first | rfl | (simp; done) | (simp [*]; done)), H', ⟨Nat.le_refl _⟩, ⟨by (with_reducible repeat (first | refine qN ?_ _ | refine qD ?_ | refine qA ?_ _)); exact BK709.out⟩, ⟨by repeat (first | (with_reducible first | exact HB.out | apply pA | apply pN | apply pD | refine pS ?_ GE709.out) | exact HB.out)⟩⟩
        case round =>
          clear H'
          try clear c1
          try clear p2
          try clear c4
          try clear c8
          try clear c9
          try clear c10
          try clear c13
          try clear hcz11_0
          try clear hcz11_1
          try clear hcz11_2
          try clear hcz11_3
          try clear hcz9_0
          try clear hcz9_1
          try clear hcz9_2
          try clear hcz9_3
          try clear hfz11_0
          try clear hfz11_1
          try clear hfz11_2
          try clear hfz11_3
          try clear hfz9_0
          try clear hfz9_1
          try clear hfz9_2
          try clear hfz9_3
          try clear p2
          obtain ⟨x6_2, x710000_2, x710001_2, x710002_2, x710003_2, rfl, HA, HK2, BK709, HB⟩ := hrel
          cases gk with
          | zero => exact absurd HA.out (by simp [portreevelaw12_AutoRight.l0])
          | succ k2 =>
            have H := HA.out
            clear HA
            simp only [portreevelaw12_AutoRight.l0] at H
            by_cases c14 : x6_2 < (l1.length : Int)
            · rw [if_pos c14] at H
              have c14b0 : decide (x6_2 < (l1.length : Int)) = true := decide_eq_true c14
              clear c14
              by_cases c15 : 0 ≤ x6_2
              · rw [if_pos c15] at H
                have c15b0 : decide (0 ≤ x6_2) = true := decide_eq_true c15
                clear c15
                replace H := Option.bind_eq_some_iff.mp H
                obtain ⟨⟨t714, t715, t716, t717, t718, t721⟩, A160, H⟩ := H
                replace H : (if t721 = 0 then (portreevelaw12_AutoRight.j2 k2 l1 t710 x6_2 t714 t715 t716 t717) else (if (!(t714 == x710000_2) || (!(t715 == x710001_2) || (!(t716 == x710002_2) || (!(t717 == x710003_2))))) = true then (some false) else ((auto_Tick.f x710000_2 x710001_2 x710002_2 x710003_2).bind fun bt723 => (portreevelaw12_AutoRight.j2 k2 l1 t710 x6_2 bt723.1 bt723.2.1 bt723.2.2.1 bt723.2.2.2.1)))) = some r := H
                have A16 := Aside0.mk A160
                clear A160
                have HC17 := Aside0.mk H
                clear H
                try go_wp2
                have n0_ := Aside0.mk (qD BK709.out)
                have n1_ := Aside0.mk (pD HB.out)
                clear BK709
                clear HB
                have BK709 := n0_
                have HB := n1_
                clear n0_ n1_
                have p713 : 0 ≤ (x6_2 : Int) := of_decide_eq_true (by first | (with_reducible assumption) | assumption)
                have q713 : x6_2 < (l1.length : Int) := of_decide_eq_true (by first | (with_reducible assumption) | assumption)
                obtain ⟨ad713, e713, hx713_0⟩ := Kd.at_int HR1.out x6_2 p713 q713
                have hw713_0 := hx713_0
                cases e713
                replace hx713_0 := (HB.out.cell (World.block_lt_of_cell? w _ hx713_0)).trans hx713_0
                replace p713 := eq_true p713
                replace q713 := eq_true q713
                refine start_ (n := 14) (S := fun w' => w'.cell? ⟨gb709, 0, none⟩ = some (.int .i64 x710000_2) ∧ w'.cell? ⟨gb709, 1, none⟩ = some (.int .i64 x710001_2) ∧ w'.cell? ⟨gb709, 2, none⟩ = some (.int .i64 x710002_2) ∧ w'.cell? ⟨gb709, 3, none⟩ = some (.int .u8 x710003_2) ∧ w'.cell? (ad713.add (x6_2).toNat) = some (.int .i64 (rd l1 x6_2))) (ds := []) #[false, false, false, false, false, false, false, false, false, false, false, false, false, false] (by kernel_rfl) rfl rfl ⟨(blk_cell BK709.out 0).trans rfl, (blk_cell BK709.out 1).trans rfl, (blk_cell BK709.out 2).trans rfl, (blk_cell BK709.out 3).trans rfl, ((HB.out.cell (World.block_lt_of_cell? w _ hw713_0)).trans hw713_0)⟩ (fun hHeld => ?_); refine with_tabW portreevelaw12_AutoRight.tab7 portreevelaw12_AutoRight.bits7 (fun HT_ HW_ => ?_)
                generalize wr.drew = w18 at BK709 HB hx713_0 hHeld ⊢
                refine pure_ (i := 1) (N := some 30) (v := ?_) (a' := ?_) #[false, true, false, false, false, false, false, false, false, false, false, false, false, false] rfl rfl (any_of HT_.out (by kernel_rfl)) (fun _ _ _ h => h) (Or.inl ⟨by rfl, ?_⟩) ?_ ?_
                rotate_left
                · intro w'
                  go_simp
                  with_reducible rfl
                rotate_left
                · simp only [Act.put, List.setIfInBounds_toArray, List.set_cons_zero, List.set_cons_succ, i64_w, i32_w]
                  rfl
                refine pure_ (i := 2) (N := some 31) (v := ?_) (a' := ?_) #[false, true, true, false, false, false, false, false, false, false, false, false, false, false] rfl rfl (any_of HT_.out (by kernel_rfl)) (fun _ _ _ h => h) (Or.inl ⟨by rfl, ?_⟩) ?_ ?_
                rotate_left
                · intro w'
                  go_simp
                  with_reducible rfl
                rotate_left
                · simp only [Act.put, List.setIfInBounds_toArray, List.set_cons_zero, List.set_cons_succ, i64_w, i32_w]
                  rfl
                refine pure_ (i := 3) (N := some 32) (v := ?_) (a' := ?_) #[false, true, true, true, false, false, false, false, false, false, false, false, false, false] rfl rfl (any_of HT_.out (by kernel_rfl)) (fun _ _ _ h => h) (Or.inl ⟨by rfl, ?_⟩) ?_ ?_
                rotate_left
                · intro w'
                  go_simp
                  with_reducible rfl
                rotate_left
                · simp only [Act.put, List.setIfInBounds_toArray, List.set_cons_zero, List.set_cons_succ, i64_w, i32_w]
                  rfl
                refine take_ (i := 0) (N := some 29) (v := ?_) (a' := ?_) #[true, true, true, true, false, false, false, false, false, false, false, false, false, false] rfl rfl (take_ofW HT_.out HW_.out (by kernel_rfl)) (fun _ _ _ h => h) (Or.inl ⟨by rfl, ?_⟩) hHeld ?_ ?_
                rotate_left
                · rintro w' ⟨s0, s1, s2, s3, s4⟩
                  go_simp
                  with_reducible rfl
                rotate_left
                · simp only [Act.put, List.setIfInBounds_toArray, List.set_cons_zero, List.set_cons_succ, i64_w, i32_w]
                  rfl
                refine take_ (i := 4) (N := some 33) (v := ?_) (a' := ?_) #[true, true, true, true, true, false, false, false, false, false, false, false, false, false] rfl rfl (take_ofW HT_.out HW_.out (by kernel_rfl)) (fun _ _ _ h => h) (Or.inl ⟨by rfl, ?_⟩) hHeld ?_ ?_
                rotate_left
                · rintro w' ⟨s0, s1, s2, s3, s4⟩
                  go_simp
                  with_reducible rfl
                rotate_left
                · simp only [Act.put, List.setIfInBounds_toArray, List.set_cons_zero, List.set_cons_succ, i64_w, i32_w]
                  rfl
                refine join_ (σ := Value × Nat) 3 #[true, true, true, true, true, true, true, true, true, true, true, false, false, false] (fun s_ => [(34, .tuple #[.agg #[.int .i64 t714, .int .i64 t715, .int .i64 t716, .int .u8 t717], s_.1, .int .i64 t721]), (7, .pointer (some ⟨s_.2, 0, none⟩)), (28, .tuple #[.agg #[.int .i64 t714, .int .i64 t715, .int .i64 t716, .int .u8 t717], s_.1, .int .i64 t721]), (35, .agg #[.int .i64 t714, .int .i64 t715, .int .i64 t716, .int .u8 t717]), (36, s_.1), (37, .int .i64 t721)]) (fun s_ w' => (w'.cell? ⟨gb709, 0, none⟩ = some (.int .i64 x710000_2) ∧ w'.cell? ⟨gb709, 1, none⟩ = some (.int .i64 x710001_2) ∧ w'.cell? ⟨gb709, 2, none⟩ = some (.int .i64 x710002_2) ∧ w'.cell? ⟨gb709, 3, none⟩ = some (.int .u8 x710003_2) ∧ w'.cell? (ad713.add (x6_2).toNat) = some (.int .i64 (rd l1 x6_2))) ∧ (Kd.R (Kd.int .i64) 3 w' w.heap.size (fun _ => True) s_.1 t718) ∧ (w'.heap[gb709]? = some (.cells #[.int .i64 x710000_2, .int .i64 x710001_2, .int .i64 x710002_2, .int .u8 x710003_2] 23 (0, 0))) ∧ (w'.heap[s_.2]? = some (.cells #[.int .i64 0, .int .i64 0, .int .i64 0, .int .u8 0] 23 (0, 0))) ∧ (w.heap.size ≤ s_.2) ∧ (w.heap.size ≤ s_.2) ∧ (gb709 ≠ s_.2) ∧ (s_.2 ≠ gb709) ∧ (Below w.heap.size w w')) ?_ ?_
                rotate_left
                · intro hCont
                  refine two_ (i := 5) (j := 10) (Ni := some 34) (Nj := some 7) #[true, true, true, true, true, true, false, false, false, false, false, false, false, false] #[true, true, true, true, true, false, false, false, false, false, true, false, false, false] rfl rfl rfl rfl (two_of HT_.out (by kernel_rfl)) (by decide) (by decide) (fun K hK => ?_) (fun K hK => ?_)
                  · skip
                    refine goes_ Tryd.func13 (by kernel_rfl) rfl #[.agg #[.int .i64 x710000_2, .int .i64 x710001_2, .int .i64 x710002_2, .int .u8 x710003_2], .int .i64 (rd l1 x6_2)] (by rfl) rfl rfl (by (try simp only [List.map_toArray, List.map_cons, List.map_nil]); first | done | rfl | (simp only [List.length_drop, List.length_take]; rfl)) ?_
                    with_reducible refine (auto_Do.calls x710000_2 x710001_2 x710002_2 x710003_2 (rd l1 x6_2) t714 t715 t716 t717 t718 t721 _ ?side1 A16.out).mono ?_
                    (case side1 => exact (HGL.out.below (by repeat (first | (with_reducible first | exact HB.out | apply pA | apply pN | apply pD | refine pS ?_ GE709.out) | exact HB.out))))
                    rintro e w19 ⟨v719, rfl, ho0, hb⟩
                    refine ⟨_, rfl, ?_⟩
                    have n0_ := Aside0.mk (Kd.R_lower ho0 (below_size (by repeat (first | (with_reducible first | exact HB.out | apply pA | apply pN | apply pD | refine pS ?_ GE709.out) | exact HB.out))))
                    have n1_ := Aside0.mk (blk_below (g := gb709) (o := .cells #[.int .i64 x710000_2, .int .i64 x710001_2, .int .i64 x710002_2, .int .u8 x710003_2] 23 (0, 0)) (by (with_reducible repeat (first | refine qN ?_ _ | refine qD ?_ | refine qA ?_ _)); exact BK709.out) hb)
                    have n2_ := Aside0.mk (below_step (by repeat (first | (with_reducible first | exact HB.out | apply pA | apply pN | apply pD | refine pS ?_ GE709.out) | exact HB.out)) hb)
                    clear BK709
                    clear HB
                    have HO720 := n0_
                    have BK709 := n1_
                    have HB := n2_
                    clear n0_ n1_ n2_
                    (try clear hb)
                    (try clear hb2)
                    (try clear hk)
                    (try clear hi)
                    (try clear ho0)
                    refine hK.out _ _ ⟨(blk_cell BK709.out 0).trans rfl, (blk_cell BK709.out 1).trans rfl, (blk_cell BK709.out 2).trans rfl, (blk_cell BK709.out 3).trans rfl, ((HB.out.cell (World.block_lt_of_cell? w _ hw713_0)).trans hw713_0)⟩ (fun hHeld => ?_)
                    clear hK K
                    refine norm_ (a' := ?_) ?_ ?_
                    rotate_left
                    · show Act.put _ (some 34) _ = _
                      simp only [Act.put, List.setIfInBounds_toArray, List.set_cons_zero, List.set_cons_succ, i64_w, i32_w]
                      rfl
                    refine pure_ (i := 6) (N := some 28) (v := ?_) (a' := ?_) #[true, true, true, true, true, true, true, false, false, false, false, false, false, false] rfl rfl (any_of HT_.out (by kernel_rfl)) (fun _ _ _ h => h) (Or.inl ⟨by rfl, ?_⟩) ?_ ?_
                    rotate_left
                    · intro w'
                      go_simp
                      with_reducible rfl
                    rotate_left
                    · simp only [Act.put, List.setIfInBounds_toArray, List.set_cons_zero, List.set_cons_succ, i64_w, i32_w]
                      rfl
                    refine pure_ (i := 7) (N := some 35) (v := ?_) (a' := ?_) #[true, true, true, true, true, true, true, true, false, false, false, false, false, false] rfl rfl (any_of HT_.out (by kernel_rfl)) (fun _ _ _ h => h) (Or.inl ⟨by rfl, ?_⟩) ?_ ?_
                    rotate_left
                    · intro w'
                      go_simp
                      with_reducible rfl
                    rotate_left
                    · simp only [Act.put, List.setIfInBounds_toArray, List.set_cons_zero, List.set_cons_succ, i64_w, i32_w]
                      rfl
                    refine pure_ (i := 8) (N := some 36) (v := ?_) (a' := ?_) #[true, true, true, true, true, true, true, true, true, false, false, false, false, false] rfl rfl (any_of HT_.out (by kernel_rfl)) (fun _ _ _ h => h) (Or.inl ⟨by rfl, ?_⟩) ?_ ?_
                    rotate_left
                    · intro w'
                      go_simp
                      with_reducible rfl
                    rotate_left
                    · simp only [Act.put, List.setIfInBounds_toArray, List.set_cons_zero, List.set_cons_succ, i64_w, i32_w]
                      rfl
                    refine pure_ (i := 9) (N := some 37) (v := ?_) (a' := ?_) #[true, true, true, true, true, true, true, true, true, true, false, false, false, false] rfl rfl (any_of HT_.out (by kernel_rfl)) (fun _ _ _ h => h) (Or.inl ⟨by rfl, ?_⟩) ?_ ?_
                    rotate_left
                    · intro w'
                      go_simp
                      with_reducible rfl
                    rotate_left
                    · simp only [Act.put, List.setIfInBounds_toArray, List.set_cons_zero, List.set_cons_succ, i64_w, i32_w]
                      rfl
                    refine one_ (i := 10) (N := some 7) #[true, true, true, true, true, true, true, true, true, true, true, false, false, false] rfl rfl (one_of HT_.out (by kernel_rfl)) (by decide) (fun K hK => ?_)
                    refine box_step ?hg (N := 7) ?hd (cs := #[.int .i64 0, .int .i64 0, .int .i64 0, .int .u8 0]) (t := 23) ?hr ?_; (case hd => rfl); (case hg => rfl); (case hr => first | (go_simp; done) | (go_simp; rfl))
                    intro gb722 hg w20 hbox hb
                    have n0_ := Aside0.mk (Kd.R_below (by (with_reducible repeat (first | apply Kd.R_alloc | apply Kd.R_drewN | apply Kd.R_drew)); exact HO720.out) hb)
                    have n1_ := Aside0.mk (blk_below (g := gb709) (o := .cells #[.int .i64 x710000_2, .int .i64 x710001_2, .int .i64 x710002_2, .int .u8 x710003_2] 23 (0, 0)) (by (with_reducible repeat (first | refine qN ?_ _ | refine qD ?_ | refine qA ?_ _)); exact BK709.out) hb)
                    have n2_ := Aside0.mk (below_step (by repeat (first | (with_reducible first | exact HB.out | apply pA | apply pN | apply pD | refine pS ?_ GE709.out) | exact HB.out)) hb)
                    have n3_ := Aside0.mk (hbox)
                    have n4_ := Aside0.mk ((by rw [hg]; exact (below_size (by repeat (first | (with_reducible first | exact HB.out | apply pA | apply pN | apply pD | refine pS ?_ GE709.out) | exact HB.out))) : w.heap.size ≤ gb722))
                    have n5_ := Aside0.mk ((by rw [hg]; exact (below_size (by repeat (first | (with_reducible first | exact HB.out | apply pA | apply pN | apply pD | refine pS ?_ GE709.out) | exact HB.out))) : w.heap.size ≤ gb722))
                    have n6_ := Aside0.mk ((by rw [hg]; exact Nat.ne_of_lt (blk_lt (g := gb709) (o := .cells #[.int .i64 x710000_2, .int .i64 x710001_2, .int .i64 x710002_2, .int .u8 x710003_2] 23 (0, 0)) (by (with_reducible repeat (first | refine qN ?_ _ | refine qD ?_ | refine qA ?_ _)); exact BK709.out)) : gb709 ≠ gb722))
                    have n7_ := Aside0.mk ((by rw [hg]; exact Nat.ne_of_gt (blk_lt (g := gb709) (o := .cells #[.int .i64 x710000_2, .int .i64 x710001_2, .int .i64 x710002_2, .int .u8 x710003_2] 23 (0, 0)) (by (with_reducible repeat (first | refine qN ?_ _ | refine qD ?_ | refine qA ?_ _)); exact BK709.out)) : gb722 ≠ gb709))
                    clear HO720
                    clear BK709
                    clear HB
                    have HO720 := n0_
                    have BK709 := n1_
                    have HB := n2_
                    have BK722 := n3_
                    have GW722 := n4_
                    have GE722 := n5_
                    have NB709_722 := n6_
                    have NB722_709 := n7_
                    clear n0_ n1_ n2_ n3_ n4_ n5_ n6_ n7_
                    clear hb hbox hg
                    refine hK.out _ _ ⟨(blk_cell BK709.out 0).trans rfl, (blk_cell BK709.out 1).trans rfl, (blk_cell BK709.out 2).trans rfl, (blk_cell BK709.out 3).trans rfl, ((HB.out.cell (World.block_lt_of_cell? w _ hw713_0)).trans hw713_0)⟩ (fun hHeld => ?_)
                    clear hK K
                    refine norm_ (a' := ?_) ?_ ?_
                    rotate_left
                    · show Act.put _ (some 7) _ = _
                      simp only [Act.put, List.setIfInBounds_toArray, List.set_cons_zero, List.set_cons_succ, i64_w, i32_w]
                      rfl
                    exact norm_ (by simp only [putAll, Act.put, List.setIfInBounds_toArray, List.set_cons_zero, List.set_cons_succ]) (hCont (v719, gb722) _ ⟨hHeld, (by (with_reducible repeat (first | apply Kd.R_alloc | apply Kd.R_drewN | apply Kd.R_drew)); exact HO720.out), (by (with_reducible repeat (first | refine qN ?_ _ | refine qD ?_ | refine qA ?_ _)); exact BK709.out), (by (with_reducible repeat (first | refine qN ?_ _ | refine qD ?_ | refine qA ?_ _)); exact BK722.out), GW722.out, GE722.out, NB709_722.out, NB722_709.out, (by repeat (first | (with_reducible first | exact HB.out | apply pA | apply pN | apply pD | refine pS ?_ GE709.out | refine pS ?_ GE722.out) | exact HB.out))⟩)
                  · skip
                    refine box_step ?hg (N := 7) ?hd (cs := #[.int .i64 0, .int .i64 0, .int .i64 0, .int .u8 0]) (t := 23) ?hr ?_; (case hd => rfl); (case hg => rfl); (case hr => first | (go_simp; done) | (go_simp; rfl))
                    intro gb722 hg w19 hbox hb
                    have n0_ := Aside0.mk (blk_below (g := gb709) (o := .cells #[.int .i64 x710000_2, .int .i64 x710001_2, .int .i64 x710002_2, .int .u8 x710003_2] 23 (0, 0)) (by (with_reducible repeat (first | refine qN ?_ _ | refine qD ?_ | refine qA ?_ _)); exact BK709.out) hb)
                    have n1_ := Aside0.mk (below_step (by repeat (first | (with_reducible first | exact HB.out | apply pA | apply pN | apply pD | refine pS ?_ GE709.out) | exact HB.out)) hb)
                    have n2_ := Aside0.mk (hbox)
                    have n3_ := Aside0.mk ((by rw [hg]; exact (below_size (by repeat (first | (with_reducible first | exact HB.out | apply pA | apply pN | apply pD | refine pS ?_ GE709.out) | exact HB.out))) : w.heap.size ≤ gb722))
                    have n4_ := Aside0.mk ((by rw [hg]; exact (below_size (by repeat (first | (with_reducible first | exact HB.out | apply pA | apply pN | apply pD | refine pS ?_ GE709.out) | exact HB.out))) : w.heap.size ≤ gb722))
                    have n5_ := Aside0.mk ((by rw [hg]; exact Nat.ne_of_lt (blk_lt (g := gb709) (o := .cells #[.int .i64 x710000_2, .int .i64 x710001_2, .int .i64 x710002_2, .int .u8 x710003_2] 23 (0, 0)) (by (with_reducible repeat (first | refine qN ?_ _ | refine qD ?_ | refine qA ?_ _)); exact BK709.out)) : gb709 ≠ gb722))
                    have n6_ := Aside0.mk ((by rw [hg]; exact Nat.ne_of_gt (blk_lt (g := gb709) (o := .cells #[.int .i64 x710000_2, .int .i64 x710001_2, .int .i64 x710002_2, .int .u8 x710003_2] 23 (0, 0)) (by (with_reducible repeat (first | refine qN ?_ _ | refine qD ?_ | refine qA ?_ _)); exact BK709.out)) : gb722 ≠ gb709))
                    clear BK709
                    clear HB
                    have BK709 := n0_
                    have HB := n1_
                    have BK722 := n2_
                    have GW722 := n3_
                    have GE722 := n4_
                    have NB709_722 := n5_
                    have NB722_709 := n6_
                    clear n0_ n1_ n2_ n3_ n4_ n5_ n6_
                    clear hb hbox hg
                    refine hK.out _ _ ⟨(blk_cell BK709.out 0).trans rfl, (blk_cell BK709.out 1).trans rfl, (blk_cell BK709.out 2).trans rfl, (blk_cell BK709.out 3).trans rfl, ((HB.out.cell (World.block_lt_of_cell? w _ hw713_0)).trans hw713_0)⟩ (fun hHeld => ?_)
                    clear hK K
                    refine norm_ (a' := ?_) ?_ ?_
                    rotate_left
                    · show Act.put _ (some 7) _ = _
                      simp only [Act.put, List.setIfInBounds_toArray, List.set_cons_zero, List.set_cons_succ, i64_w, i32_w]
                      rfl
                    refine one_ (i := 5) (N := some 34) #[true, true, true, true, true, true, false, false, false, false, true, false, false, false] rfl rfl (one_of HT_.out (by kernel_rfl)) (by decide) (fun K hK => ?_)
                    refine goes_ Tryd.func13 (by kernel_rfl) rfl #[.agg #[.int .i64 x710000_2, .int .i64 x710001_2, .int .i64 x710002_2, .int .u8 x710003_2], .int .i64 (rd l1 x6_2)] (by rfl) rfl rfl (by (try simp only [List.map_toArray, List.map_cons, List.map_nil]); first | done | rfl | (simp only [List.length_drop, List.length_take]; rfl)) ?_
                    with_reducible refine (auto_Do.calls x710000_2 x710001_2 x710002_2 x710003_2 (rd l1 x6_2) t714 t715 t716 t717 t718 t721 _ ?side1 A16.out).mono ?_
                    (case side1 => exact (HGL.out.below (by repeat (first | (with_reducible first | exact HB.out | apply pA | apply pN | apply pD | refine pS ?_ GE709.out | refine pS ?_ GE722.out) | exact HB.out))))
                    rintro e w20 ⟨v719, rfl, ho0, hb⟩
                    refine ⟨_, rfl, ?_⟩
                    have n0_ := Aside0.mk (Kd.R_lower ho0 (below_size (by repeat (first | (with_reducible first | exact HB.out | apply pA | apply pN | apply pD | refine pS ?_ GE709.out | refine pS ?_ GE722.out) | exact HB.out))))
                    have n1_ := Aside0.mk (blk_below (g := gb709) (o := .cells #[.int .i64 x710000_2, .int .i64 x710001_2, .int .i64 x710002_2, .int .u8 x710003_2] 23 (0, 0)) (by (with_reducible repeat (first | refine qN ?_ _ | refine qD ?_ | refine qA ?_ _)); exact BK709.out) hb)
                    have n2_ := Aside0.mk (blk_below (g := gb722) (o := .cells #[.int .i64 0, .int .i64 0, .int .i64 0, .int .u8 0] 23 (0, 0)) (by (with_reducible repeat (first | refine qN ?_ _ | refine qD ?_ | refine qA ?_ _)); exact BK722.out) hb)
                    have n3_ := Aside0.mk (below_step (by repeat (first | (with_reducible first | exact HB.out | apply pA | apply pN | apply pD | refine pS ?_ GE709.out | refine pS ?_ GE722.out) | exact HB.out)) hb)
                    clear BK709
                    clear BK722
                    clear HB
                    have HO720 := n0_
                    have BK709 := n1_
                    have BK722 := n2_
                    have HB := n3_
                    clear n0_ n1_ n2_ n3_
                    (try clear hb)
                    (try clear hb2)
                    (try clear hk)
                    (try clear hi)
                    (try clear ho0)
                    refine hK.out _ _ ⟨(blk_cell BK709.out 0).trans rfl, (blk_cell BK709.out 1).trans rfl, (blk_cell BK709.out 2).trans rfl, (blk_cell BK709.out 3).trans rfl, ((HB.out.cell (World.block_lt_of_cell? w _ hw713_0)).trans hw713_0)⟩ (fun hHeld => ?_)
                    clear hK K
                    refine norm_ (a' := ?_) ?_ ?_
                    rotate_left
                    · show Act.put _ (some 34) _ = _
                      simp only [Act.put, List.setIfInBounds_toArray, List.set_cons_zero, List.set_cons_succ, i64_w, i32_w]
                      rfl
                    refine pure_ (i := 6) (N := some 28) (v := ?_) (a' := ?_) #[true, true, true, true, true, true, true, false, false, false, true, false, false, false] rfl rfl (any_of HT_.out (by kernel_rfl)) (fun _ _ _ h => h) (Or.inl ⟨by rfl, ?_⟩) ?_ ?_
                    rotate_left
                    · intro w'
                      go_simp
                      with_reducible rfl
                    rotate_left
                    · simp only [Act.put, List.setIfInBounds_toArray, List.set_cons_zero, List.set_cons_succ, i64_w, i32_w]
                      rfl
                    refine pure_ (i := 7) (N := some 35) (v := ?_) (a' := ?_) #[true, true, true, true, true, true, true, true, false, false, true, false, false, false] rfl rfl (any_of HT_.out (by kernel_rfl)) (fun _ _ _ h => h) (Or.inl ⟨by rfl, ?_⟩) ?_ ?_
                    rotate_left
                    · intro w'
                      go_simp
                      with_reducible rfl
                    rotate_left
                    · simp only [Act.put, List.setIfInBounds_toArray, List.set_cons_zero, List.set_cons_succ, i64_w, i32_w]
                      rfl
                    refine pure_ (i := 8) (N := some 36) (v := ?_) (a' := ?_) #[true, true, true, true, true, true, true, true, true, false, true, false, false, false] rfl rfl (any_of HT_.out (by kernel_rfl)) (fun _ _ _ h => h) (Or.inl ⟨by rfl, ?_⟩) ?_ ?_
                    rotate_left
                    · intro w'
                      go_simp
                      with_reducible rfl
                    rotate_left
                    · simp only [Act.put, List.setIfInBounds_toArray, List.set_cons_zero, List.set_cons_succ, i64_w, i32_w]
                      rfl
                    refine pure_ (i := 9) (N := some 37) (v := ?_) (a' := ?_) #[true, true, true, true, true, true, true, true, true, true, true, false, false, false] rfl rfl (any_of HT_.out (by kernel_rfl)) (fun _ _ _ h => h) (Or.inl ⟨by rfl, ?_⟩) ?_ ?_
                    rotate_left
                    · intro w'
                      go_simp
                      with_reducible rfl
                    rotate_left
                    · simp only [Act.put, List.setIfInBounds_toArray, List.set_cons_zero, List.set_cons_succ, i64_w, i32_w]
                      rfl
                    exact norm_ (by simp only [putAll, Act.put, List.setIfInBounds_toArray, List.set_cons_zero, List.set_cons_succ]) (hCont (v719, gb722) _ ⟨hHeld, (by (with_reducible repeat (first | apply Kd.R_alloc | apply Kd.R_drewN | apply Kd.R_drew)); exact HO720.out), (by (with_reducible repeat (first | refine qN ?_ _ | refine qD ?_ | refine qA ?_ _)); exact BK709.out), (by (with_reducible repeat (first | refine qN ?_ _ | refine qD ?_ | refine qA ?_ _)); exact BK722.out), GW722.out, GE722.out, NB709_722.out, NB722_709.out, (by repeat (first | (with_reducible first | exact HB.out | apply pA | apply pN | apply pD | refine pS ?_ GE709.out | refine pS ?_ GE722.out) | exact HB.out))⟩)
                rintro ⟨v719, gb722⟩ w21 ⟨hS_, h0_, h1_, h2_, h3_, h4_, h5_, h6_, h7_⟩
                have n0_ : Aside0 (Kd.R (Kd.int .i64) 3 w21 w.heap.size (fun _ => True) v719 t718) := ⟨h0_⟩
                have n1_ : Aside0 (w21.heap[gb709]? = some (.cells #[.int .i64 x710000_2, .int .i64 x710001_2, .int .i64 x710002_2, .int .u8 x710003_2] 23 (0, 0))) := ⟨h1_⟩
                have n2_ : Aside0 (w21.heap[gb722]? = some (.cells #[.int .i64 0, .int .i64 0, .int .i64 0, .int .u8 0] 23 (0, 0))) := ⟨h2_⟩
                have n3_ : Aside0 (w.heap.size ≤ gb722) := ⟨h3_⟩
                have n4_ : Aside0 (w.heap.size ≤ gb722) := ⟨h4_⟩
                have n5_ : Aside0 (gb709 ≠ gb722) := ⟨h5_⟩
                have n6_ : Aside0 (gb722 ≠ gb709) := ⟨h6_⟩
                have n7_ : Aside0 (Below w.heap.size w w21) := ⟨h7_⟩
                clear BK709
                clear HB
                clear h0_ h1_ h2_ h3_ h4_ h5_ h6_ h7_
                have HO720 := n0_
                have BK709 := n1_
                have BK722 := n2_
                have GW722 := n3_
                have GE722 := n4_
                have NB709_722 := n5_
                have NB722_709 := n6_
                have HB := n7_
                clear n0_ n1_ n2_ n3_ n4_ n5_ n6_ n7_
                have hHeld : w21.cell? ⟨gb709, 0, none⟩ = some (.int .i64 x710000_2) ∧ w21.cell? ⟨gb709, 1, none⟩ = some (.int .i64 x710001_2) ∧ w21.cell? ⟨gb709, 2, none⟩ = some (.int .i64 x710002_2) ∧ w21.cell? ⟨gb709, 3, none⟩ = some (.int .u8 x710003_2) ∧ w21.cell? (ad713.add (x6_2).toNat) = some (.int .i64 (rd l1 x6_2)) := hS_
                refine norm_ (a' := ?_) ?_ ?_
                rotate_left
                · simp only [putAll, Act.put, List.setIfInBounds_toArray, List.set_cons_zero, List.set_cons_succ]
                  rfl
                refine one_ (i := 11) (N := none) #[true, true, true, true, true, true, true, true, true, true, true, true, false, false] rfl rfl (one_of HT_.out (by kernel_rfl)) (by decide) (fun K hK => ?_)
                have hs22 : w21.cell? ⟨gb722, 0, none⟩ = some (.int .i64 0) := (blk_cell BK722.out 0).trans rfl
                have hfs22 := blk_frozen BK722.out 0
                have hns22_0 := NB709_722.out
                have hms22_0 := NB722_709.out
                have hs23 : w21.cell? ⟨gb722, 1, none⟩ = some (.int .i64 0) := (blk_cell BK722.out 1).trans rfl
                have hfs23 := blk_frozen BK722.out 1
                have hns23_0 := NB709_722.out
                have hms23_0 := NB722_709.out
                have hs24 : w21.cell? ⟨gb722, 2, none⟩ = some (.int .i64 0) := (blk_cell BK722.out 2).trans rfl
                have hfs24 := blk_frozen BK722.out 2
                have hns24_0 := NB709_722.out
                have hms24_0 := NB722_709.out
                have hs25 : w21.cell? ⟨gb722, 3, none⟩ = some (.int .u8 0) := (blk_cell BK722.out 3).trans rfl
                have hfs25 := blk_frozen BK722.out 3
                have hns25_0 := NB709_722.out
                have hms25_0 := NB722_709.out
                refine skip_ (w1 := ?_) (by rfl) rfl ?_ ?_
                rotate_left
                · go_simp
                  rfl
                refine hK.out _ _ ⟨((cell_far (p := ⟨gb722, _, none⟩) NB709_722.out _).trans (((cell_far (p := ⟨gb722, _, none⟩) NB709_722.out _).trans (((cell_far (p := ⟨gb722, _, none⟩) NB709_722.out _).trans (((cell_far (p := ⟨gb722, _, none⟩) NB709_722.out _).trans (hHeld.1)))))))), ((cell_far (p := ⟨gb722, _, none⟩) NB709_722.out _).trans (((cell_far (p := ⟨gb722, _, none⟩) NB709_722.out _).trans (((cell_far (p := ⟨gb722, _, none⟩) NB709_722.out _).trans (((cell_far (p := ⟨gb722, _, none⟩) NB709_722.out _).trans (hHeld.2.1)))))))), ((cell_far (p := ⟨gb722, _, none⟩) NB709_722.out _).trans (((cell_far (p := ⟨gb722, _, none⟩) NB709_722.out _).trans (((cell_far (p := ⟨gb722, _, none⟩) NB709_722.out _).trans (((cell_far (p := ⟨gb722, _, none⟩) NB709_722.out _).trans (hHeld.2.2.1)))))))), ((cell_far (p := ⟨gb722, _, none⟩) NB709_722.out _).trans (((cell_far (p := ⟨gb722, _, none⟩) NB709_722.out _).trans (((cell_far (p := ⟨gb722, _, none⟩) NB709_722.out _).trans (((cell_far (p := ⟨gb722, _, none⟩) NB709_722.out _).trans (hHeld.2.2.2.1)))))))), ((cell_far (p := ⟨gb722, _, none⟩) (by first | exact Nat.ne_of_lt (Nat.lt_of_lt_of_le (by have := World.block_lt_of_cell? _ _ hw713_0; first | rwa [add_block] at this | exact this) GW722.out) | (rw [add_block]; exact Nat.ne_of_lt (Nat.lt_of_lt_of_le (by have := World.block_lt_of_cell? _ _ hw713_0; first | rwa [add_block] at this | exact this) GW722.out)) | (show (Addr.add _ _).block ≠ _; rw [add_block]; exact Nat.ne_of_lt (Nat.lt_of_lt_of_le (by have := World.block_lt_of_cell? _ _ hw713_0; first | rwa [add_block] at this | exact this) GW722.out)) | (dsimp only; exact Nat.ne_of_lt (Nat.lt_of_lt_of_le (by have := World.block_lt_of_cell? _ _ hw713_0; first | rwa [add_block] at this | exact this) GW722.out))) _).trans (((cell_far (p := ⟨gb722, _, none⟩) (by first | exact Nat.ne_of_lt (Nat.lt_of_lt_of_le (by have := World.block_lt_of_cell? _ _ hw713_0; first | rwa [add_block] at this | exact this) GW722.out) | (rw [add_block]; exact Nat.ne_of_lt (Nat.lt_of_lt_of_le (by have := World.block_lt_of_cell? _ _ hw713_0; first | rwa [add_block] at this | exact this) GW722.out)) | (show (Addr.add _ _).block ≠ _; rw [add_block]; exact Nat.ne_of_lt (Nat.lt_of_lt_of_le (by have := World.block_lt_of_cell? _ _ hw713_0; first | rwa [add_block] at this | exact this) GW722.out)) | (dsimp only; exact Nat.ne_of_lt (Nat.lt_of_lt_of_le (by have := World.block_lt_of_cell? _ _ hw713_0; first | rwa [add_block] at this | exact this) GW722.out))) _).trans (((cell_far (p := ⟨gb722, _, none⟩) (by first | exact Nat.ne_of_lt (Nat.lt_of_lt_of_le (by have := World.block_lt_of_cell? _ _ hw713_0; first | rwa [add_block] at this | exact this) GW722.out) | (rw [add_block]; exact Nat.ne_of_lt (Nat.lt_of_lt_of_le (by have := World.block_lt_of_cell? _ _ hw713_0; first | rwa [add_block] at this | exact this) GW722.out)) | (show (Addr.add _ _).block ≠ _; rw [add_block]; exact Nat.ne_of_lt (Nat.lt_of_lt_of_le (by have := World.block_lt_of_cell? _ _ hw713_0; first | rwa [add_block] at this | exact this) GW722.out)) | (dsimp only; exact Nat.ne_of_lt (Nat.lt_of_lt_of_le (by have := World.block_lt_of_cell? _ _ hw713_0; first | rwa [add_block] at this | exact this) GW722.out))) _).trans (((cell_far (p := ⟨gb722, _, none⟩) (by first | exact Nat.ne_of_lt (Nat.lt_of_lt_of_le (by have := World.block_lt_of_cell? _ _ hw713_0; first | rwa [add_block] at this | exact this) GW722.out) | (rw [add_block]; exact Nat.ne_of_lt (Nat.lt_of_lt_of_le (by have := World.block_lt_of_cell? _ _ hw713_0; first | rwa [add_block] at this | exact this) GW722.out)) | (show (Addr.add _ _).block ≠ _; rw [add_block]; exact Nat.ne_of_lt (Nat.lt_of_lt_of_le (by have := World.block_lt_of_cell? _ _ hw713_0; first | rwa [add_block] at this | exact this) GW722.out)) | (dsimp only; exact Nat.ne_of_lt (Nat.lt_of_lt_of_le (by have := World.block_lt_of_cell? _ _ hw713_0; first | rwa [add_block] at this | exact this) GW722.out))) _).trans (hHeld.2.2.2.2))))))))⟩ (fun hHeld => ?_)
                clear hK K
                refine pure_ (i := 12) (N := some 8) (v := ?_) (a' := ?_) #[true, true, true, true, true, true, true, true, true, true, true, true, true, false] rfl rfl (any_of HT_.out (by kernel_rfl)) (fun _ _ _ h => h) (Or.inl ⟨by rfl, ?_⟩) ?_ ?_
                rotate_left
                · intro w'
                  go_simp
                  with_reducible rfl
                rotate_left
                · simp only [Act.put, List.setIfInBounds_toArray, List.set_cons_zero, List.set_cons_succ, i64_w, i32_w]
                  rfl
                refine pure_ (i := 13) (N := some 9) (v := ?_) (a' := ?_) #[true, true, true, true, true, true, true, true, true, true, true, true, true, true] rfl rfl (any_of HT_.out (by kernel_rfl)) (fun _ _ _ h => h) (Or.inl ⟨by rfl, ?_⟩) ?_ ?_
                rotate_left
                · intro w'
                  go_simp
                  with_reducible rfl
                rotate_left
                · simp only [Act.put, List.setIfInBounds_toArray, List.set_cons_zero, List.set_cons_succ, i64_w, i32_w]
                  rfl
                refine done_ (done_of HT_.out (by kernel_rfl)) ?_
                go_upto_if 39 with (fail)
                go_cut [] (fun wc => ∃ (kq : Nat) (x723000_16 : Int) (x723001_16 : Int) (x723002_16 : Int) (x723003_16 : Int), Aside0 (portreevelaw12_AutoRight.j2 kq l1 t710 x6_2 x723000_16 x723001_16 x723002_16 x723003_16 = some r) ∧ Aside0 (kq ≤ k2) ∧ Aside0 (wc.heap[gb709]? = some (.cells #[.int .i64 x710000_2, .int .i64 x710001_2, .int .i64 x710002_2, .int .u8 x710003_2] 23 (0, 0))) ∧ Aside0 (wc.heap[gb722]? = some (.cells #[.int .i64 x723000_16, .int .i64 x723001_16, .int .i64 x723002_16, .int .u8 x723003_16] 23 (0, 0))) ∧ Aside0 (Below w.heap.size w wc))
                case first =>
                  have H := HC17.out
                  clear HC17
                  by_cases c26 : t721 = 0
                  · rw [if_pos c26] at H
                    have c26b0 : (t721 == 0) = true := beq_iff_eq.mpr c26
                    have c26b1 : (t721 != 0) = false := bne_eq_false_iff_eq.mpr c26
                    clear c26
                    (first | rw [c26b0] | (simp only [i64_w, i32_w]; rw [c26b0]) | skip)
                    have H' := Aside0.mk H
                    clear H
                    go_wp2
                    go_meet
                    case rel => exact ⟨_, (t714), (t715), (t716), (t717), H', ⟨by have := HJ3.out; have := HK2.out; first | omega | exact Nat.le_refl _⟩, ⟨by (with_reducible repeat (first | refine qN ?_ _ | refine qD ?_ | refine qA ?_ _)); refine blk_far ?_ NB709_722.out _; (with_reducible repeat (first | refine qN ?_ _ | refine qD ?_ | refine qA ?_ _)); refine blk_far ?_ NB709_722.out _; (with_reducible repeat (first | refine qN ?_ _ | refine qD ?_ | refine qA ?_ _)); refine blk_far ?_ NB709_722.out _; (with_reducible repeat (first | refine qN ?_ _ | refine qD ?_ | refine qA ?_ _)); refine blk_far ?_ NB709_722.out _; (with_reducible repeat (first | refine qN ?_ _ | refine qD ?_ | refine qA ?_ _)); exact BK709.out⟩, ⟨by (with_reducible repeat (first | refine qN ?_ _ | refine qD ?_ | refine qA ?_ _)); refine blk_put (cs := #[.int .i64 t714, .int .i64 t715, .int .i64 t716, .int .u8 0]) ?_ 3 _ rfl; (with_reducible repeat (first | refine qN ?_ _ | refine qD ?_ | refine qA ?_ _)); refine blk_put (cs := #[.int .i64 t714, .int .i64 t715, .int .i64 0, .int .u8 0]) ?_ 2 _ rfl; (with_reducible repeat (first | refine qN ?_ _ | refine qD ?_ | refine qA ?_ _)); refine blk_put (cs := #[.int .i64 t714, .int .i64 0, .int .i64 0, .int .u8 0]) ?_ 1 _ rfl; (with_reducible repeat (first | refine qN ?_ _ | refine qD ?_ | refine qA ?_ _)); refine blk_put (cs := #[.int .i64 0, .int .i64 0, .int .i64 0, .int .u8 0]) ?_ 0 _ rfl; (with_reducible repeat (first | refine qN ?_ _ | refine qD ?_ | refine qA ?_ _)); exact BK722.out⟩, ⟨by repeat (first | (with_reducible first | exact HB.out | apply pA | apply pN | apply pD | refine pS ?_ GE709.out | refine pS ?_ GE722.out) | exact HB.out)⟩⟩
                  · rw [if_neg c26] at H
                    have c26b0 : (t721 == 0) = false := beq_eq_false_iff_ne.mpr c26
                    have c26b1 : (t721 != 0) = true := bne_iff_ne.mpr c26
                    (first | rw [c26b0] | (simp only [i64_w, i32_w]; rw [c26b0]) | skip)
                    by_cases c27 : (!(t714 == x710000_2) || (!(t715 == x710001_2) || (!(t716 == x710002_2) || (!(t717 == x710003_2))))) = true
                    · rw [if_pos c27] at H
                      have c27b0 : (!(t714 == x710000_2) || (!(t715 == x710001_2) || (!(t716 == x710002_2) || (!(t717 == x710003_2))))) = true := c27
                      clear c27
                      exact absurd ((Option.some.inj H).trans hlaw_.out) (by decide)
                    · rw [if_neg c27] at H
                      have c27b0 : (!(t714 == x710000_2) || (!(t715 == x710001_2) || (!(t716 == x710002_2) || (!(t717 == x710003_2))))) = false := by simpa using c27
                      clear c27
                      replace H := Option.bind_eq_some_iff.mp H
                      obtain ⟨⟨t723, t724, t725, t726, t727⟩, A280, H⟩ := H
                      replace H : (portreevelaw12_AutoRight.j2 k2 l1 t710 x6_2 t723 t724 t725 t726) = some r := H
                      have A28 := Aside0.mk A280
                      clear A280
                      have H' := Aside0.mk H
                      clear H
                      have hnb29 := NB722_709.out
                      have hnc29 := NB709_722.out
                      have hcz30_0 : w21.cell? ⟨gb722, 0, none⟩ = some (.int .i64 0) := (blk_cell BK722.out 0).trans rfl
                      have hcz30_1 : w21.cell? ⟨gb722, 1, none⟩ = some (.int .i64 0) := (blk_cell BK722.out 1).trans rfl
                      have hcz30_2 : w21.cell? ⟨gb722, 2, none⟩ = some (.int .i64 0) := (blk_cell BK722.out 2).trans rfl
                      have hcz30_3 : w21.cell? ⟨gb722, 3, none⟩ = some (.int .u8 0) := (blk_cell BK722.out 3).trans rfl
                      have hfz30_0 := blk_frozen BK722.out 0
                      have hfz30_1 := blk_frozen BK722.out 1
                      have hfz30_2 := blk_frozen BK722.out 2
                      have hfz30_3 := blk_frozen BK722.out 3
                      have hcz31_0 : w21.cell? ⟨gb709, 0, none⟩ = some (.int .i64 x710000_2) := (blk_cell BK709.out 0).trans rfl
                      have hcz31_1 : w21.cell? ⟨gb709, 1, none⟩ = some (.int .i64 x710001_2) := (blk_cell BK709.out 1).trans rfl
                      have hcz31_2 : w21.cell? ⟨gb709, 2, none⟩ = some (.int .i64 x710002_2) := (blk_cell BK709.out 2).trans rfl
                      have hcz31_3 : w21.cell? ⟨gb709, 3, none⟩ = some (.int .u8 x710003_2) := (blk_cell BK709.out 3).trans rfl
                      have hfz31_0 := blk_frozen BK709.out 0
                      have hfz31_1 := blk_frozen BK709.out 1
                      have hfz31_2 := blk_frozen BK709.out 2
                      have hfz31_3 := blk_frozen BK709.out 3
                      go_wp2_with (first | ((with_reducible refine gate_callee (f := 15) rfl ?_); refine goesL_ (some 45) rfl rfl Tryd.func15 (by kernel_rfl) rfl #[.agg #[.int .i64 x710000_2, .int .i64 x710001_2, .int .i64 x710002_2, .int .u8 x710003_2]] rfl (by (try simp only [List.map_toArray, List.map_cons, List.map_nil]); first | done | rfl | (simp only [List.length_drop, List.length_take]; rfl)) ?_; (with_reducible refine (auto_Tick.calls x710000_2 x710001_2 x710002_2 x710003_2 t723 t724 t725 t726 t727 _ ?side1 A28.out).mono ?_); (case side1 => exact (HGL.out.below (by repeat (first | (with_reducible first | exact HB.out | apply pA | apply pN | apply pD | refine pS ?_ GE709.out | refine pS ?_ GE722.out) | exact HB.out)))); rintro e w32 ⟨v728, rfl, ho0, hb⟩; refine ⟨_, rfl, ?_⟩; have n0_ := Aside0.mk (Kd.R_elder' (by (with_reducible repeat (first | apply Kd.R_alloc | apply Kd.R_drewN | apply Kd.R_drew)); exact (Kd.R_mono (Kd.R_far (p := ⟨gb722, 3, none⟩) (Kd.R_far (p := ⟨gb722, 2, none⟩) (Kd.R_far (p := ⟨gb722, 1, none⟩) (Kd.R_far (p := ⟨gb722, 0, none⟩) (Kd.R_types HO720.out BK722.out (by decide)) (fun _ hk => hk.2) (.int .i64 t714)) (fun _ hk => hk.2) (.int .i64 t715)) (fun _ hk => hk.2) (.int .i64 t716)) (fun _ hk => hk.2) (.int .u8 t717)) (fun _ h_ => h_.1))) (Kd.R_base ho0) hb); have n1_ := Aside0.mk (Kd.R_lower (Kd.R_new' ho0 (Kd.R_lt (by (with_reducible repeat (first | apply Kd.R_alloc | apply Kd.R_drewN | apply Kd.R_drew)); exact (Kd.R_mono (Kd.R_far (p := ⟨gb722, 3, none⟩) (Kd.R_far (p := ⟨gb722, 2, none⟩) (Kd.R_far (p := ⟨gb722, 1, none⟩) (Kd.R_far (p := ⟨gb722, 0, none⟩) (Kd.R_types HO720.out BK722.out (by decide)) (fun _ hk => hk.2) (.int .i64 t714)) (fun _ hk => hk.2) (.int .i64 t715)) (fun _ hk => hk.2) (.int .i64 t716)) (fun _ hk => hk.2) (.int .u8 t717)) (fun _ h_ => h_.1))))) (below_size (by repeat (first | (with_reducible first | exact HB.out | apply pA | apply pN | apply pD | refine pS ?_ GE709.out | refine pS ?_ GE722.out) | exact HB.out)))); have n2_ := Aside0.mk (blk_below (g := gb709) (o := .cells #[.int .i64 x710000_2, .int .i64 x710001_2, .int .i64 x710002_2, .int .u8 x710003_2] 23 (0, 0)) (by (with_reducible repeat (first | refine qN ?_ _ | refine qD ?_ | refine qA ?_ _)); refine blk_far ?_ NB709_722.out _; (with_reducible repeat (first | refine qN ?_ _ | refine qD ?_ | refine qA ?_ _)); refine blk_far ?_ NB709_722.out _; (with_reducible repeat (first | refine qN ?_ _ | refine qD ?_ | refine qA ?_ _)); refine blk_far ?_ NB709_722.out _; (with_reducible repeat (first | refine qN ?_ _ | refine qD ?_ | refine qA ?_ _)); refine blk_far ?_ NB709_722.out _; (with_reducible repeat (first | refine qN ?_ _ | refine qD ?_ | refine qA ?_ _)); exact BK709.out) hb); have n3_ := Aside0.mk (blk_below (g := gb722) (o := .cells #[.int .i64 t714, .int .i64 t715, .int .i64 t716, .int .u8 t717] 23 (0, 0)) (by (with_reducible repeat (first | refine qN ?_ _ | refine qD ?_ | refine qA ?_ _)); refine blk_put (cs := #[.int .i64 t714, .int .i64 t715, .int .i64 t716, .int .u8 0]) ?_ 3 _ rfl; (with_reducible repeat (first | refine qN ?_ _ | refine qD ?_ | refine qA ?_ _)); refine blk_put (cs := #[.int .i64 t714, .int .i64 t715, .int .i64 0, .int .u8 0]) ?_ 2 _ rfl; (with_reducible repeat (first | refine qN ?_ _ | refine qD ?_ | refine qA ?_ _)); refine blk_put (cs := #[.int .i64 t714, .int .i64 0, .int .i64 0, .int .u8 0]) ?_ 1 _ rfl; (with_reducible repeat (first | refine qN ?_ _ | refine qD ?_ | refine qA ?_ _)); refine blk_put (cs := #[.int .i64 0, .int .i64 0, .int .i64 0, .int .u8 0]) ?_ 0 _ rfl; (with_reducible repeat (first | refine qN ?_ _ | refine qD ?_ | refine qA ?_ _)); exact BK722.out) hb); have n4_ := Aside0.mk (below_step (by repeat (first | (with_reducible first | exact HB.out | apply pA | apply pN | apply pD | refine pS ?_ GE709.out | refine pS ?_ GE722.out) | exact HB.out)) hb); clear HO720; clear BK709; clear BK722; clear HB; have HO720 := n0_; have HO729 := n1_; have BK709 := n2_; have BK722 := n3_; have HB := n4_; clear n0_ n1_ n2_ n3_ n4_; (try clear hb); (try clear hb2); (try clear hk); (try clear hi); (try clear ho0)) | ((with_reducible refine gate_dst (N := 10) rfl ?_); (try (refine gate_guard (by rfl) ?_; dsimp only)); refine box_event ?hg (N := 10) ?hd (cs := #[.int .i64 0, .int .i64 0, .int .i64 0, .int .u8 0]) (t := 23) ?hr ?_; (case hd => rfl); (case hg => rfl); (case hr => first | (go_simp; done) | (go_simp; rfl)); intro gb730 hg w33 hbox hb; have n0_ := Aside0.mk (Kd.R_below (by (with_reducible repeat (first | apply Kd.R_alloc | apply Kd.R_drewN | apply Kd.R_drew)); exact HO720.out) hb); have n1_ := Aside0.mk (Kd.R_below (by (with_reducible repeat (first | apply Kd.R_alloc | apply Kd.R_drewN | apply Kd.R_drew)); exact HO729.out) hb); have n2_ := Aside0.mk (blk_below (g := gb709) (o := .cells #[.int .i64 x710000_2, .int .i64 x710001_2, .int .i64 x710002_2, .int .u8 x710003_2] 23 (0, 0)) (by (with_reducible repeat (first | refine qN ?_ _ | refine qD ?_ | refine qA ?_ _)); exact BK709.out) hb); have n3_ := Aside0.mk (blk_below (g := gb722) (o := .cells #[.int .i64 t714, .int .i64 t715, .int .i64 t716, .int .u8 t717] 23 (0, 0)) (by (with_reducible repeat (first | refine qN ?_ _ | refine qD ?_ | refine qA ?_ _)); exact BK722.out) hb); have n4_ := Aside0.mk (below_step (by repeat (first | (with_reducible first | exact HB.out | apply pA | apply pN | apply pD | refine pS ?_ GE709.out | refine pS ?_ GE722.out) | exact HB.out)) hb); have n5_ := Aside0.mk (hbox); have n6_ := Aside0.mk ((by rw [hg]; exact (below_size (by repeat (first | (with_reducible first | exact HB.out | apply pA | apply pN | apply pD | refine pS ?_ GE709.out | refine pS ?_ GE722.out) | exact HB.out))) : w.heap.size ≤ gb730)); have n7_ := Aside0.mk ((by rw [hg]; exact (below_size (by repeat (first | (with_reducible first | exact HB.out | apply pA | apply pN | apply pD | refine pS ?_ GE709.out | refine pS ?_ GE722.out) | exact HB.out))) : w.heap.size ≤ gb730)); have n8_ := Aside0.mk ((by rw [hg]; exact Nat.ne_of_lt (blk_lt (g := gb709) (o := .cells #[.int .i64 x710000_2, .int .i64 x710001_2, .int .i64 x710002_2, .int .u8 x710003_2] 23 (0, 0)) (by (with_reducible repeat (first | refine qN ?_ _ | refine qD ?_ | refine qA ?_ _)); exact BK709.out)) : gb709 ≠ gb730)); have n9_ := Aside0.mk ((by rw [hg]; exact Nat.ne_of_gt (blk_lt (g := gb709) (o := .cells #[.int .i64 x710000_2, .int .i64 x710001_2, .int .i64 x710002_2, .int .u8 x710003_2] 23 (0, 0)) (by (with_reducible repeat (first | refine qN ?_ _ | refine qD ?_ | refine qA ?_ _)); exact BK709.out)) : gb730 ≠ gb709)); have n10_ := Aside0.mk ((by rw [hg]; exact Nat.ne_of_lt (blk_lt (g := gb722) (o := .cells #[.int .i64 t714, .int .i64 t715, .int .i64 t716, .int .u8 t717] 23 (0, 0)) (by (with_reducible repeat (first | refine qN ?_ _ | refine qD ?_ | refine qA ?_ _)); exact BK722.out)) : gb722 ≠ gb730)); have n11_ := Aside0.mk ((by rw [hg]; exact Nat.ne_of_gt (blk_lt (g := gb722) (o := .cells #[.int .i64 t714, .int .i64 t715, .int .i64 t716, .int .u8 t717] 23 (0, 0)) (by (with_reducible repeat (first | refine qN ?_ _ | refine qD ?_ | refine qA ?_ _)); exact BK722.out)) : gb730 ≠ gb722)); clear HO720; clear HO729; clear BK709; clear BK722; clear HB; have HO720 := n0_; have HO729 := n1_; have BK709 := n2_; have BK722 := n3_; have HB := n4_; have BK730 := n5_; have GW730 := n6_; have GE730 := n7_; have NB709_730 := n8_; have NB730_709 := n9_; have NB722_730 := n10_; have NB730_722 := n11_; clear n0_ n1_ n2_ n3_ n4_ n5_ n6_ n7_ n8_ n9_ n10_ n11_; clear hb hbox hg; have hnb34 := NB730_709.out; have hnc34 := NB709_730.out; have hnb35 := NB730_722.out; have hnc35 := NB722_730.out; have hcz36_0 : w33.cell? ⟨gb730, 0, none⟩ = some (.int .i64 0) := (blk_cell BK730.out 0).trans rfl; have hcz36_1 : w33.cell? ⟨gb730, 1, none⟩ = some (.int .i64 0) := (blk_cell BK730.out 1).trans rfl; have hcz36_2 : w33.cell? ⟨gb730, 2, none⟩ = some (.int .i64 0) := (blk_cell BK730.out 2).trans rfl; have hcz36_3 : w33.cell? ⟨gb730, 3, none⟩ = some (.int .u8 0) := (blk_cell BK730.out 3).trans rfl; have hfz36_0 := blk_frozen BK730.out 0; have hfz36_1 := blk_frozen BK730.out 1; have hfz36_2 := blk_frozen BK730.out 2; have hfz36_3 := blk_frozen BK730.out 3; have hcz37_0 : w33.cell? ⟨gb722, 0, none⟩ = some (.int .i64 t714) := (blk_cell BK722.out 0).trans rfl; have hcz37_1 : w33.cell? ⟨gb722, 1, none⟩ = some (.int .i64 t715) := (blk_cell BK722.out 1).trans rfl; have hcz37_2 : w33.cell? ⟨gb722, 2, none⟩ = some (.int .i64 t716) := (blk_cell BK722.out 2).trans rfl; have hcz37_3 : w33.cell? ⟨gb722, 3, none⟩ = some (.int .u8 t717) := (blk_cell BK722.out 3).trans rfl; have hfz37_0 := blk_frozen BK722.out 0; have hfz37_1 := blk_frozen BK722.out 1; have hfz37_2 := blk_frozen BK722.out 2; have hfz37_3 := blk_frozen BK722.out 3))
                      go_meet
                      case rel => exact ⟨_, (t723), (t724), (t725), (t726), H', ⟨by have := HJ3.out; have := HK2.out; first | omega | exact Nat.le_refl _⟩, ⟨by (with_reducible repeat (first | refine qN ?_ _ | refine qD ?_ | refine qA ?_ _)); refine blk_far ?_ NB709_722.out _; (with_reducible repeat (first | refine qN ?_ _ | refine qD ?_ | refine qA ?_ _)); refine blk_far ?_ NB709_722.out _; (with_reducible repeat (first | refine qN ?_ _ | refine qD ?_ | refine qA ?_ _)); refine blk_far ?_ NB709_722.out _; (with_reducible repeat (first | refine qN ?_ _ | refine qD ?_ | refine qA ?_ _)); refine blk_far ?_ NB709_722.out _; (with_reducible repeat (first | refine qN ?_ _ | refine qD ?_ | refine qA ?_ _)); refine blk_far ?_ NB709_730.out _; (with_reducible repeat (first | refine qN ?_ _ | refine qD ?_ | refine qA ?_ _)); refine blk_far ?_ NB709_730.out _; (with_reducible repeat (first | refine qN ?_ _ | refine qD ?_ | refine qA ?_ _)); refine blk_far ?_ NB709_730.out _; (with_reducible repeat (first | refine qN ?_ _ | refine qD ?_ | refine qA ?_ _)); refine blk_far ?_ NB709_730.out _; (with_reducible repeat (first | refine qN ?_ _ | refine qD ?_ | refine qA ?_ _)); exact BK709.out⟩, ⟨by (with_reducible repeat (first | refine qN ?_ _ | refine qD ?_ | refine qA ?_ _)); refine blk_put (cs := #[.int .i64 t723, .int .i64 t724, .int .i64 t725, .int .u8 t717]) ?_ 3 _ rfl; (with_reducible repeat (first | refine qN ?_ _ | refine qD ?_ | refine qA ?_ _)); refine blk_put (cs := #[.int .i64 t723, .int .i64 t724, .int .i64 t716, .int .u8 t717]) ?_ 2 _ rfl; (with_reducible repeat (first | refine qN ?_ _ | refine qD ?_ | refine qA ?_ _)); refine blk_put (cs := #[.int .i64 t723, .int .i64 t715, .int .i64 t716, .int .u8 t717]) ?_ 1 _ rfl; (with_reducible repeat (first | refine qN ?_ _ | refine qD ?_ | refine qA ?_ _)); refine blk_put (cs := #[.int .i64 t714, .int .i64 t715, .int .i64 t716, .int .u8 t717]) ?_ 0 _ rfl; (with_reducible repeat (first | refine qN ?_ _ | refine qD ?_ | refine qA ?_ _)); refine blk_far ?_ NB722_730.out _; (with_reducible repeat (first | refine qN ?_ _ | refine qD ?_ | refine qA ?_ _)); refine blk_far ?_ NB722_730.out _; (with_reducible repeat (first | refine qN ?_ _ | refine qD ?_ | refine qA ?_ _)); refine blk_far ?_ NB722_730.out _; (with_reducible repeat (first | refine qN ?_ _ | refine qD ?_ | refine qA ?_ _)); refine blk_far ?_ NB722_730.out _; (with_reducible repeat (first | refine qN ?_ _ | refine qD ?_ | refine qA ?_ _)); exact BK722.out⟩, ⟨by repeat (first | (with_reducible first | exact HB.out | apply pA | apply pN | apply pD | refine pS ?_ GE709.out | refine pS ?_ GE722.out | refine pS ?_ GE730.out) | exact HB.out)⟩⟩
                case rest =>
                  clear HC17
                  try clear c1
                  try clear c2
                  try clear p2
                  try clear c3
                  try clear c4
                  try clear p7
                  try clear q7
                  try clear hx7
                  try clear c8
                  try clear c9
                  try clear c10
                  try clear c13
                  try clear c14
                  try clear c14b0
                  try clear c15
                  try clear c15b0
                  try clear c26
                  try clear c26b0
                  try clear c26b1
                  try clear c27
                  try clear c27b0
                  try clear c29
                  try clear c34
                  try clear c35
                  try clear hcz11_0
                  try clear hcz11_1
                  try clear hcz11_2
                  try clear hcz11_3
                  try clear hcz30_0
                  try clear hcz30_1
                  try clear hcz30_2
                  try clear hcz30_3
                  try clear hcz31_0
                  try clear hcz31_1
                  try clear hcz31_2
                  try clear hcz31_3
                  try clear hcz36_0
                  try clear hcz36_1
                  try clear hcz36_2
                  try clear hcz36_3
                  try clear hcz37_0
                  try clear hcz37_1
                  try clear hcz37_2
                  try clear hcz37_3
                  try clear hcz9_0
                  try clear hcz9_1
                  try clear hcz9_2
                  try clear hcz9_3
                  try clear hfz11_0
                  try clear hfz11_1
                  try clear hfz11_2
                  try clear hfz11_3
                  try clear hfz30_0
                  try clear hfz30_1
                  try clear hfz30_2
                  try clear hfz30_3
                  try clear hfz31_0
                  try clear hfz31_1
                  try clear hfz31_2
                  try clear hfz31_3
                  try clear hfz36_0
                  try clear hfz36_1
                  try clear hfz36_2
                  try clear hfz36_3
                  try clear hfz37_0
                  try clear hfz37_1
                  try clear hfz37_2
                  try clear hfz37_3
                  try clear hfz9_0
                  try clear hfz9_1
                  try clear hfz9_2
                  try clear hfz9_3
                  try clear hx713_0
                  try clear p2
                  try clear p713
                  try clear q713
                  obtain ⟨kq, x723000_16, x723001_16, x723002_16, x723003_16, HA, HJ16, BK709, BK722, HB⟩ := hcut
                  cases kq with
                  | zero => exact absurd HA.out (by simp [portreevelaw12_AutoRight.j2])
                  | succ kj16 =>
                    have H := HA.out
                    clear HA
                    simp only [portreevelaw12_AutoRight.j2] at H
                    replace H := Option.bind_eq_some_iff.mp H
                    obtain ⟨t731, A380, H⟩ := H
                    replace H : (if t731 = true then (portreevelaw12_AutoRight.l0 kj16 l1 t710 (wrap64 (x6_2 + 1)) x723000_16 x723001_16 x723002_16 x723003_16) else (some false)) = some r := H
                    have A38 := Aside0.mk A380
                    clear A380
                    by_cases c39 : t731 = true
                    · subst c39
                      have H1 : (portreevelaw12_AutoRight.l0 kj16 l1 t710 (wrap64 (x6_2 + 1)) x723000_16 x723001_16 x723002_16 x723003_16) = some r := by rw [if_pos rfl] at H; exact H
                      clear H
                      have H := H1
                      clear H1
                      have H' := Aside0.mk H
                      clear H
                      have hnb40 := NB722_709.out
                      have hnc40 := NB709_722.out
                      have hcz41_0 : wc.cell? ⟨gb722, 0, none⟩ = some (.int .i64 x723000_16) := (blk_cell BK722.out 0).trans rfl
                      have hcz41_1 : wc.cell? ⟨gb722, 1, none⟩ = some (.int .i64 x723001_16) := (blk_cell BK722.out 1).trans rfl
                      have hcz41_2 : wc.cell? ⟨gb722, 2, none⟩ = some (.int .i64 x723002_16) := (blk_cell BK722.out 2).trans rfl
                      have hcz41_3 : wc.cell? ⟨gb722, 3, none⟩ = some (.int .u8 x723003_16) := (blk_cell BK722.out 3).trans rfl
                      have hfz41_0 := blk_frozen BK722.out 0
                      have hfz41_1 := blk_frozen BK722.out 1
                      have hfz41_2 := blk_frozen BK722.out 2
                      have hfz41_3 := blk_frozen BK722.out 3
                      go_wp2_with (first | ((with_reducible refine gate_callee (f := 10) rfl ?_); refine goesL_ (some 50) rfl rfl Tryd.func10 (by kernel_rfl) rfl #[.agg #[.int .i64 x723000_16, .int .i64 x723001_16, .int .i64 x723002_16, .int .u8 x723003_16]] rfl (by (try simp only [List.map_toArray, List.map_cons, List.map_nil]); first | done | rfl | (simp only [List.length_drop, List.length_take]; rfl)) ?_; (with_reducible refine (portreeveref12_Right.calls kj16 x723000_16 x723001_16 x723002_16 x723003_16 true _ A38.out).mono ?_); rintro e w42 ⟨rfl, hb⟩; refine ⟨_, rfl, ?_⟩; have n0_ := Aside0.mk (blk_below (g := gb709) (o := .cells #[.int .i64 x710000_2, .int .i64 x710001_2, .int .i64 x710002_2, .int .u8 x710003_2] 23 (0, 0)) (by (with_reducible repeat (first | refine qN ?_ _ | refine qD ?_ | refine qA ?_ _)); exact BK709.out) hb); have n1_ := Aside0.mk (blk_below (g := gb722) (o := .cells #[.int .i64 x723000_16, .int .i64 x723001_16, .int .i64 x723002_16, .int .u8 x723003_16] 23 (0, 0)) (by (with_reducible repeat (first | refine qN ?_ _ | refine qD ?_ | refine qA ?_ _)); exact BK722.out) hb); have n2_ := Aside0.mk (below_step (by repeat (first | (with_reducible first | exact HB.out | apply pA | apply pN | apply pD | refine pS ?_ GE709.out | refine pS ?_ GE722.out) | exact HB.out)) hb); clear BK709; clear BK722; clear HB; have BK709 := n0_; have BK722 := n1_; have HB := n2_; clear n0_ n1_ n2_; (try clear hb); (try clear hb2); (try clear hk); (try clear hi); have hcz43_0 : w42.cell? ⟨gb722, 0, none⟩ = some (.int .i64 x723000_16) := (blk_cell BK722.out 0).trans rfl; have hcz43_1 : w42.cell? ⟨gb722, 1, none⟩ = some (.int .i64 x723001_16) := (blk_cell BK722.out 1).trans rfl; have hcz43_2 : w42.cell? ⟨gb722, 2, none⟩ = some (.int .i64 x723002_16) := (blk_cell BK722.out 2).trans rfl; have hcz43_3 : w42.cell? ⟨gb722, 3, none⟩ = some (.int .u8 x723003_16) := (blk_cell BK722.out 3).trans rfl; have hfz43_0 := blk_frozen BK722.out 0; have hfz43_1 := blk_frozen BK722.out 1; have hfz43_2 := blk_frozen BK722.out 2; have hfz43_3 := blk_frozen BK722.out 3; have hcz44_0 : w42.cell? ⟨gb709, 0, none⟩ = some (.int .i64 x710000_2) := (blk_cell BK709.out 0).trans rfl; have hcz44_1 : w42.cell? ⟨gb709, 1, none⟩ = some (.int .i64 x710001_2) := (blk_cell BK709.out 1).trans rfl; have hcz44_2 : w42.cell? ⟨gb709, 2, none⟩ = some (.int .i64 x710002_2) := (blk_cell BK709.out 2).trans rfl; have hcz44_3 : w42.cell? ⟨gb709, 3, none⟩ = some (.int .u8 x710003_2) := (blk_cell BK709.out 3).trans rfl; have hfz44_0 := blk_frozen BK709.out 0; have hfz44_1 := blk_frozen BK709.out 1; have hfz44_2 := blk_frozen BK709.out 2; have hfz44_3 := blk_frozen BK709.out 3))
                      go_roundg kj16
                      case measure => have := HJ3.out; have := HK2.out; have := HJ16.out; omega
                      case rel => exact ⟨(wrap64 (x6_2 + 1)), (x723000_16), (x723001_16), (x723002_16), (x723003_16), (by first | rfl | (simp; done) | (simp [*]; done)), H', ⟨by have := HJ3.out; have := HK2.out; have := HJ16.out; omega⟩, ⟨by (with_reducible repeat (first | refine qN ?_ _ | refine qD ?_ | refine qA ?_ _)); refine blk_put (cs := #[.int .i64 x723000_16, .int .i64 x723001_16, .int .i64 x723002_16, .int .u8 x710003_2]) ?_ 3 _ rfl; (with_reducible repeat (first | refine qN ?_ _ | refine qD ?_ | refine qA ?_ _)); refine blk_put (cs := #[.int .i64 x723000_16, .int .i64 x723001_16, .int .i64 x710002_2, .int .u8 x710003_2]) ?_ 2 _ rfl; (with_reducible repeat (first | refine qN ?_ _ | refine qD ?_ | refine qA ?_ _)); refine blk_put (cs := #[.int .i64 x723000_16, .int .i64 x710001_2, .int .i64 x710002_2, .int .u8 x710003_2]) ?_ 1 _ rfl; (with_reducible repeat (first | refine qN ?_ _ | refine qD ?_ | refine qA ?_ _)); refine blk_put (cs := #[.int .i64 x710000_2, .int .i64 x710001_2, .int .i64 x710002_2, .int .u8 x710003_2]) ?_ 0 _ rfl; (with_reducible repeat (first | refine qN ?_ _ | refine qD ?_ | refine qA ?_ _)); exact BK709.out⟩, ⟨by repeat (first | (with_reducible first | exact HB.out | apply pA | apply pN | apply pD | refine pS ?_ GE709.out | refine pS ?_ GE722.out) | exact HB.out)⟩⟩
                    · replace c39 := Bool.eq_false_iff.mpr c39
                      subst c39
                      have H1 : (some false) = some r := by rw [if_neg (show ¬ (false = true) by decide)] at H; exact H
                      clear H
                      have H := H1
                      clear H1
                      exact absurd ((Option.some.inj H).trans hlaw_.out) (by decide)
              · rw [if_neg c15] at H
                exact absurd H (by simp)
            · rw [if_neg c14] at H
              have c14b0 : decide (x6_2 < (l1.length : Int)) = false := decide_eq_false c14
              clear c14
              by_cases c45 : t710 = true
              · subst c45
                have H1 : ((auto_Right.f k2 x710000_2 x710001_2 x710002_2 x710003_2).bind fun t712 => (some t712)) = some r := by rw [if_pos rfl] at H; exact H
                clear H
                have H := H1
                clear H1
                replace H := Option.bind_eq_some_iff.mp H
                obtain ⟨t712, A460, H⟩ := H
                replace H : (some t712) = some r := H
                have A46 := Aside0.mk A460
                clear A460
                clear hlaw_
                obtain rfl := Option.some.inj H
                have hcz47_0 : wr.cell? ⟨gb709, 0, none⟩ = some (.int .i64 x710000_2) := (blk_cell BK709.out 0).trans rfl
                have hcz47_1 : wr.cell? ⟨gb709, 1, none⟩ = some (.int .i64 x710001_2) := (blk_cell BK709.out 1).trans rfl
                have hcz47_2 : wr.cell? ⟨gb709, 2, none⟩ = some (.int .i64 x710002_2) := (blk_cell BK709.out 2).trans rfl
                have hcz47_3 : wr.cell? ⟨gb709, 3, none⟩ = some (.int .u8 x710003_2) := (blk_cell BK709.out 3).trans rfl
                have hfz47_0 := blk_frozen BK709.out 0
                have hfz47_1 := blk_frozen BK709.out 1
                have hfz47_2 := blk_frozen BK709.out 2
                have hfz47_3 := blk_frozen BK709.out 3
                go_wp2_with (first | (go_at_call 11; (with_reducible refine (auto_Right.calls k2 x710000_2 x710001_2 x710002_2 x710003_2 t712 _ A46.out).mono ?_); rintro e w48 ⟨rfl, hb⟩; have n0_ := Aside0.mk (blk_below (g := gb709) (o := .cells #[.int .i64 x710000_2, .int .i64 x710001_2, .int .i64 x710002_2, .int .u8 x710003_2] 23 (0, 0)) (by (with_reducible repeat (first | refine qN ?_ _ | refine qD ?_ | refine qA ?_ _)); exact BK709.out) hb); have n1_ := Aside0.mk (below_step (by repeat (first | (with_reducible first | exact HB.out | apply pA | apply pN | apply pD | refine pS ?_ GE709.out) | exact HB.out)) hb); clear BK709; clear HB; have BK709 := n0_; have HB := n1_; clear n0_ n1_; (try clear hb); (try clear hb2); (try clear hk); (try clear hi)))
                go_ret
                exact ⟨by first | rfl | (simp [errW_none, errW_some] <;> rfl) | (simp [*, errW_none, errW_some] <;> rfl), by repeat (first | (with_reducible first | exact HB.out | apply pA | apply pN | apply pD | refine pS ?_ GE709.out) | exact HB.out)⟩
              · replace c45 := Bool.eq_false_iff.mpr c45
                subst c45
                have H1 : (some false) = some r := by rw [if_neg (show ¬ (false = true) by decide)] at H; exact H
                clear H
                have H := H1
                clear H1
                exact absurd ((Option.some.inj H).trans hlaw_.out) (by decide)

end Go.Proofs.YtoenogjedmnnlaaDoor.Q

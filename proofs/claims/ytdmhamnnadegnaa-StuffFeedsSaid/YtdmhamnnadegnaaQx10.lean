-- written by this session's own program (wip/tools/myprint.py), over the kit's print
import Derived.Test.YtdmhamnnadegnaaQx0
import Derived.Test.YtdmhamnnadegnaaQx4
import Derived.Test.YtdmhamnnadegnaaQx5
import Derived.Test.YtdmhamnnadegnaaQx6
import Derived.Test.YtdmhamnnadegnaaQx8
import Derived.Test.YtdmhamnnadegnaaQx9
namespace Go.Proofs.Ytdmhamnnadegnaa.Q
open Go.RowKit Go.Proofs.YtdmhamnnadegnaaW.PrintWords Go.Proofs.YtdmhamnnadegnaaW.PrintLast Go.Proofs.YtdmhamnnadegnaaW.PrintMore
open Go.Proofs.YtdmhamnnadegnaaV
attribute [local go_sem] max2_int min2_int max_two min_two max_three min_three max_four min_four   -- for this text's walks alone
set_option linter.unusedVariables false
set_option linter.unusedSimpArgs false

/-! ### portreevelaw07_StuffFeeds: function 4 -/
def portreevelaw07_StuffFeeds.j0 : Nat → Int → Bool → Bool → List Int → Bool → List Int → Bool → Option (Bool)
  | 0, _, _, _, _, _, _, _ => none
  | k + 1, x1, x7, x22, x299000, x299001, x300000, x300001 => if x22 = true then (some x7) else ((stuff_Feed.f k x299000 x299001 x1).bind fun bt303 => ((portreeveref07_Feed.f k x299000 x299001 x1).bind fun bt312 => (if x7 = true then ((portreeveref07_Same.f k bt303.1 bt303.2.1 bt312.1 bt312.2.1).bind fun t321 => (if t321 = true then ((portreeveref01_Row.f k bt303.2.2.1 bt312.2.2.1).bind fun t322 => (if t322 = true then (if (bt303.2.2.2 == bt312.2.2.2) = true then ((stuff_Same.f x299000 x299001 x300000 x300001).bind fun t323 => ((portreeveref07_Same.f k x299000 x299001 x300000 x300001).bind fun t324 => (some (t323 == t324)))) else (some false)) else (some false))) else (some false))) else (some false))))
def portreevelaw07_StuffFeeds.f (k : Nat) (l0_0 : List Int) (a0_1 : Bool) (a1 : Int) (l2_0 : List Int) (a2_1 : Bool) : Option (Bool) := (portreevelaw07_shown.f k).bind fun t300 => ((portreeveref07_Right.f k l0_0 a0_1).bind fun t301 => (if t301 = true then ((portreeveref07_Right.f k l2_0 a2_1).bind fun t302 => (portreevelaw07_StuffFeeds.j0 k a1 t300 (!t302) l0_0 a0_1 l2_0 a2_1)) else (portreevelaw07_StuffFeeds.j0 k a1 t300 true l0_0 a0_1 l2_0 a2_1)))
theorem portreevelaw07_StuffFeeds.mono_l : ∀ k, (∀ y0 y1 y2 y3 y4 y5 y6, LeO (portreevelaw07_StuffFeeds.j0 k y0 y1 y2 y3 y4 y5 y6) (portreevelaw07_StuffFeeds.j0 (k + 1) y0 y1 y2 y3 y4 y5 y6))
  | 0 => fun _ _ _ _ _ _ _ r h => by simp [portreevelaw07_StuffFeeds.j0] at h
  | k + 1 => by
    have ih0 := portreevelaw07_StuffFeeds.mono_l k
    · intro y0 y1 y2 y3 y4 y5 y6
      unfold portreevelaw07_StuffFeeds.j0
      repeat' first
      | (with_reducible exact ih0 _ _ _ _ _ _ _)
      | (with_reducible exact portreevelaw07_shown.mono _)
      | (with_reducible exact portreeveref01_Row.mono _ _ _)
      | (with_reducible exact portreeveref07_Feed.mono _ _ _ _)
      | (with_reducible exact portreeveref07_Right.mono _ _ _)
      | (with_reducible exact portreeveref07_Same.mono _ _ _ _ _)
      | (with_reducible exact stuff_Feed.mono _ _ _ _)
      | (with_reducible exact LeO.refl _)
      | (with_reducible exact LeO.none _)
      | (with_reducible refine LeO.ite ?_ ?_)
      | (with_reducible refine LeO.bind ?_ (fun _ => ?_))
      | exact ih0 _ _ _ _ _ _ _
      | exact portreevelaw07_shown.mono _
      | exact portreeveref01_Row.mono _ _ _
      | exact portreeveref07_Feed.mono _ _ _ _
      | exact portreeveref07_Right.mono _ _ _
      | exact portreeveref07_Same.mono _ _ _ _ _
      | exact stuff_Feed.mono _ _ _ _
      | exact LeO.none _
      | refine LeO.ite ?_ ?_
      | refine LeO.bind ?_ (fun _ => ?_)
theorem portreevelaw07_StuffFeeds.mono : ∀ a0 a1 a2 a3 a4 k, LeO (portreevelaw07_StuffFeeds.f k a0 a1 a2 a3 a4) (portreevelaw07_StuffFeeds.f (k + 1) a0 a1 a2 a3 a4) := by
  intro a0 a1 a2 a3 a4 k
  have ih0 := portreevelaw07_StuffFeeds.mono_l k
  unfold portreevelaw07_StuffFeeds.f
  repeat' first
      | (with_reducible exact ih0 _ _ _ _ _ _ _)
      | (with_reducible exact portreevelaw07_shown.mono _)
      | (with_reducible exact portreeveref01_Row.mono _ _ _)
      | (with_reducible exact portreeveref07_Feed.mono _ _ _ _)
      | (with_reducible exact portreeveref07_Right.mono _ _ _)
      | (with_reducible exact portreeveref07_Same.mono _ _ _ _ _)
      | (with_reducible exact stuff_Feed.mono _ _ _ _)
      | (with_reducible exact LeO.refl _)
      | (with_reducible exact LeO.none _)
      | (with_reducible refine LeO.ite ?_ ?_)
      | (with_reducible refine LeO.bind ?_ (fun _ => ?_))
      | exact ih0 _ _ _ _ _ _ _
      | exact portreevelaw07_shown.mono _
      | exact portreeveref01_Row.mono _ _ _
      | exact portreeveref07_Feed.mono _ _ _ _
      | exact portreeveref07_Right.mono _ _ _
      | exact portreeveref07_Same.mono _ _ _ _ _
      | exact stuff_Feed.mono _ _ _ _
      | exact LeO.none _
      | refine LeO.ite ?_ ?_
      | refine LeO.bind ?_ (fun _ => ?_)
def portreevelaw07_StuffFeeds.T6 : Bool × List (List Nat × List Nat) := (true, [([], []), ([0], [0]), ([1], [1]), ([1], [1]), ([2, 3, 1, 1], [1, 2, 3]), ([1, 4], [1, 4]), ([5, 4], [5]), ([6], [6]), ([6], [6]), ([7, 8, 6, 6], [6, 7, 8]), ([6, 9], [6, 9]), ([10, 9], [10]), ([11], [11]), ([11], [11]), ([12, 13, 11], [11, 12, 13]), ([11, 14], [11, 14]), ([15, 11], [15]), ([16], [16]), ([16], [16]), ([17, 18, 16, 16], [16, 17, 18]), ([16], [16]), ([16], [16]), ([20, 21, 19, 16], [16, 20, 21]), ([19, 22, 16], [16, 19, 22]), ([16, 23], [16, 23]), ([24, 22, 0, 1, 2, 3, 4, 5, 6, 7, 8, 9, 10, 11, 12, 13, 14, 15, 16, 17, 18, 19, 20, 21, 22, 23, 24], [24])])
def portreevelaw07_StuffFeeds.B6 : List Nat := [0, 1, 3, 3, 15, 31, 63, 127, 127, 511, 1023, 2047, 4095, 4095, 16383, 32767, 65535, 131071, 131071, 524287, 131071, 131071, 4194303, 8388607, 16777215, 33554431]
theorem portreevelaw07_StuffFeeds.tab6 : rtab .any (opsOf Try.f4 6) = portreevelaw07_StuffFeeds.T6 := by kernel_rfl
theorem portreevelaw07_StuffFeeds.bits6 : waitsOk portreevelaw07_StuffFeeds.T6.2 portreevelaw07_StuffFeeds.B6 = true := by kernel_rfl
set_option maxHeartbeats 8000000 in
set_option maxRecDepth 100000 in
theorem portreevelaw07_StuffFeeds.calls (k : Nat) (A0_0 : Option Addr) (c0_0 : Nat) (l0_0 : List Int) (a0_1 : Bool) (a1 : Int) (A2_0 : Option Addr) (c2_0 : Nat) (l2_0 : List Int) (a2_1 : Bool) (r : Bool) (w : World) (hlaw_ : Aside0 (r = true)) (hr0_0 : Kd.C (Kd.int .u8) w A0_0 l0_0.length l0_0) (hc0_0 : l0_0.length ≤ c0_0) (hr2_0 : Kd.C (Kd.int .u8) w A2_0 l2_0.length l2_0) (hc2_0 : l2_0.length ≤ c2_0) (h : portreevelaw07_StuffFeeds.f k l0_0 a0_1 a1 l2_0 a2_1 = some r) :
    Calls Try.prog 4 #[.agg #[.slice A0_0 l0_0.length c0_0, .bool a0_1], .int .u8 a1, .agg #[.slice A2_0 l2_0.length c2_0, .bool a2_1]] w fun e w' => e = .returned (.bool r) ∧ Below w.heap.size w w' := by
  have hu37 := Try.underlying37
  have HR0_0 := Aside0.mk hr0_0
  have HC0_0 := Aside0.mk hc0_0
  clear hr0_0 hc0_0
  have HR2_0 := Aside0.mk hr2_0
  have HC2_0 := Aside0.mk hc2_0
  clear hr2_0 hc2_0
  have HB := Aside0.mk (Below.refl w.heap.size w)
  have H : ((portreevelaw07_shown.f k).bind fun t300 => ((portreeveref07_Right.f k l0_0 a0_1).bind fun t301 => (if t301 = true then ((portreeveref07_Right.f k l2_0 a2_1).bind fun t302 => (portreevelaw07_StuffFeeds.j0 k a1 t300 (!t302) l0_0 a0_1 l2_0 a2_1)) else (portreevelaw07_StuffFeeds.j0 k a1 t300 true l0_0 a0_1 l2_0 a2_1)))) = some r := h
  clear h
  replace H := Option.bind_eq_some_iff.mp H
  obtain ⟨t300, A40, H⟩ := H
  replace H : ((portreeveref07_Right.f k l0_0 a0_1).bind fun t301 => (if t301 = true then ((portreeveref07_Right.f k l2_0 a2_1).bind fun t302 => (portreevelaw07_StuffFeeds.j0 k a1 t300 (!t302) l0_0 a0_1 l2_0 a2_1)) else (portreevelaw07_StuffFeeds.j0 k a1 t300 true l0_0 a0_1 l2_0 a2_1))) = some r := H
  have A4 := Aside0.mk A40
  clear A40
  have HC5 := Aside0.mk H
  clear H
  go_enter Try.func4, Try.ntmps4
  go_upto_region 2 with (first | ((with_reducible refine gate_dst (N := 3) rfl ?_); refine box_event ?hg (N := 3) ?hd (cs := #[.slice A0_0 l0_0.length c0_0, .bool a0_1]) (t := 37) ?hr ?_; (case hd => rfl); (case hg => rfl); (case hr => first | (go_simp; done) | (go_simp; rfl)); intro gb298 hg w6 hbox hb; have n0_ := Aside0.mk (below_step (by repeat (first | (with_reducible first | exact HB.out | apply pA | apply pN | apply pD) | exact HB.out)) hb); have n1_ := Aside0.mk (hbox); have n2_ := Aside0.mk ((by rw [hg]; exact (below_size (by repeat (first | (with_reducible first | exact HB.out | apply pA | apply pN | apply pD) | exact HB.out))) : w.heap.size ≤ gb298)); have n3_ := Aside0.mk ((by rw [hg]; exact (below_size (by repeat (first | (with_reducible first | exact HB.out | apply pA | apply pN | apply pD) | exact HB.out))) : w.heap.size ≤ gb298)); clear HB; have HB := n0_; have BK298 := n1_; have GW298 := n2_; have GE298 := n3_; clear n0_ n1_ n2_ n3_; clear hb hbox hg) | ((with_reducible refine gate_dst (N := 5) rfl ?_); refine box_event ?hg (N := 5) ?hd (cs := #[.slice A2_0 l2_0.length c2_0, .bool a2_1]) (t := 37) ?hr ?_; (case hd => rfl); (case hg => rfl); (case hr => first | (go_simp; done) | (go_simp; rfl)); intro gb299 hg w7 hbox hb; have n0_ := Aside0.mk (blk_below (g := gb298) (o := .cells #[.slice A0_0 l0_0.length c0_0, .bool a0_1] 37 (0, 0)) (by (with_reducible repeat (first | refine qN ?_ _ | refine qD ?_ | refine qA ?_ _)); exact BK298.out) hb); have n1_ := Aside0.mk (below_step (by repeat (first | (with_reducible first | exact HB.out | apply pA | apply pN | apply pD | refine pS ?_ GE298.out) | exact HB.out)) hb); have n2_ := Aside0.mk (hbox); have n3_ := Aside0.mk ((by rw [hg]; exact (below_size (by repeat (first | (with_reducible first | exact HB.out | apply pA | apply pN | apply pD | refine pS ?_ GE298.out) | exact HB.out))) : w.heap.size ≤ gb299)); have n4_ := Aside0.mk ((by rw [hg]; exact (below_size (by repeat (first | (with_reducible first | exact HB.out | apply pA | apply pN | apply pD | refine pS ?_ GE298.out) | exact HB.out))) : w.heap.size ≤ gb299)); have n5_ := Aside0.mk ((by rw [hg]; exact Nat.ne_of_lt (blk_lt (g := gb298) (o := .cells #[.slice A0_0 l0_0.length c0_0, .bool a0_1] 37 (0, 0)) (by (with_reducible repeat (first | refine qN ?_ _ | refine qD ?_ | refine qA ?_ _)); exact BK298.out)) : gb298 ≠ gb299)); have n6_ := Aside0.mk ((by rw [hg]; exact Nat.ne_of_gt (blk_lt (g := gb298) (o := .cells #[.slice A0_0 l0_0.length c0_0, .bool a0_1] 37 (0, 0)) (by (with_reducible repeat (first | refine qN ?_ _ | refine qD ?_ | refine qA ?_ _)); exact BK298.out)) : gb299 ≠ gb298)); clear BK298; clear HB; have BK298 := n0_; have HB := n1_; have BK299 := n2_; have GW299 := n3_; have GE299 := n4_; have NB298_299 := n5_; have NB299_298 := n6_; clear n0_ n1_ n2_ n3_ n4_ n5_ n6_; clear hb hbox hg) | ((with_reducible refine gate_callee (f := 10) rfl ?_); refine goesL_ (some 14) rfl rfl Try.func10 (by kernel_rfl) rfl #[] rfl (by (try simp only [List.map_toArray, List.map_cons, List.map_nil]); first | done | rfl | (simp only [List.length_drop, List.length_take]; rfl)) ?_; (with_reducible refine (portreevelaw07_shown.calls k  t300 _ A4.out).mono ?_); rintro e w8 ⟨rfl, hb⟩; refine ⟨_, rfl, ?_⟩; have n0_ := Aside0.mk (blk_below (g := gb298) (o := .cells #[.slice A0_0 l0_0.length c0_0, .bool a0_1] 37 (0, 0)) (by (with_reducible repeat (first | refine qN ?_ _ | refine qD ?_ | refine qA ?_ _)); exact BK298.out) hb); have n1_ := Aside0.mk (blk_below (g := gb299) (o := .cells #[.slice A2_0 l2_0.length c2_0, .bool a2_1] 37 (0, 0)) (by (with_reducible repeat (first | refine qN ?_ _ | refine qD ?_ | refine qA ?_ _)); exact BK299.out) hb); have n2_ := Aside0.mk (below_step (by repeat (first | (with_reducible first | exact HB.out | apply pA | apply pN | apply pD | refine pS ?_ GE298.out | refine pS ?_ GE299.out) | exact HB.out)) hb); clear BK298; clear BK299; clear HB; have BK298 := n0_; have BK299 := n1_; have HB := n2_; clear n0_ n1_ n2_; (try clear hb); (try clear hb2); (try clear hk); (try clear hi)))
  (try simp only [Act.put, List.setIfInBounds_toArray, List.set_cons_zero, List.set_cons_succ])
  go_cut [22] (fun v22 wc => ∃ (kq : Nat) (x22_4 : Bool), v22 = .bool x22_4 ∧ Aside0 (portreevelaw07_StuffFeeds.j0 kq a1 t300 x22_4 l0_0 a0_1 l2_0 a2_1 = some r) ∧ Aside0 (kq ≤ k) ∧ Aside0 (wc.heap[gb298]? = some (.cells #[(.slice A0_0 l0_0.length c0_0), .bool a0_1] 37 (0, 0))) ∧ Aside0 (wc.heap[gb299]? = some (.cells #[(.slice A2_0 l2_0.length c2_0), .bool a2_1] 37 (0, 0))) ∧ Aside0 (Below w.heap.size w wc))
  case first =>
    have H := HC5.out
    clear HC5
    replace H := Option.bind_eq_some_iff.mp H
    obtain ⟨t301, A90, H⟩ := H
    replace H : (if t301 = true then ((portreeveref07_Right.f k l2_0 a2_1).bind fun t302 => (portreevelaw07_StuffFeeds.j0 k a1 t300 (!t302) l0_0 a0_1 l2_0 a2_1)) else (portreevelaw07_StuffFeeds.j0 k a1 t300 true l0_0 a0_1 l2_0 a2_1)) = some r := H
    have A9 := Aside0.mk A90
    clear A90
    by_cases c10 : t301 = true
    · subst c10
      have H1 : ((portreeveref07_Right.f k l2_0 a2_1).bind fun t302 => (portreevelaw07_StuffFeeds.j0 k a1 t300 (!t302) l0_0 a0_1 l2_0 a2_1)) = some r := by rw [if_pos rfl] at H; exact H
      clear H
      have H := H1
      clear H1
      replace H := Option.bind_eq_some_iff.mp H
      obtain ⟨t302, A110, H⟩ := H
      replace H : (portreevelaw07_StuffFeeds.j0 k a1 t300 (!t302) l0_0 a0_1 l2_0 a2_1) = some r := H
      have A11 := Aside0.mk A110
      clear A110
      have H' := Aside0.mk H
      clear H
      have hnb12 := NB298_299.out
      have hnc12 := NB299_298.out
      have hcz13_0 : w8.cell? ⟨gb298, 0, none⟩ = some (.slice A0_0 l0_0.length c0_0) := (blk_cell BK298.out 0).trans rfl
      have hcz13_1 : w8.cell? ⟨gb298, 1, none⟩ = some (.bool a0_1) := (blk_cell BK298.out 1).trans rfl
      have hfz13_0 := blk_frozen BK298.out 0
      have hfz13_1 := blk_frozen BK298.out 1
      go_wp2_with (first | ((with_reducible refine gate_callee (f := 21) rfl ?_); refine goesL_ (some 16) rfl rfl Try.func21 (by kernel_rfl) rfl #[.agg #[.slice A0_0 l0_0.length c0_0, .bool a0_1]] rfl (by (try simp only [List.map_toArray, List.map_cons, List.map_nil]); first | done | rfl | (simp only [List.length_drop, List.length_take]; rfl)) ?_; (with_reducible refine (portreeveref07_Right.calls k _ _ l0_0 a0_1 true _ ?side1 ?side2 A9.out).mono ?_); (case side1 => repeat (first | exact (Kd.C_below HR0_0.out HB.out) | (with_reducible refine Kd.C_alloc ?_ _) | (with_reducible refine Kd.C_drewN ?_ _) | (with_reducible refine Kd.C_drew ?_))); (case side2 => exact HC0_0.out); rintro e w14 ⟨rfl, hb⟩; refine ⟨_, rfl, ?_⟩; have n0_ := Aside0.mk (blk_below (g := gb298) (o := .cells #[.slice A0_0 l0_0.length c0_0, .bool a0_1] 37 (0, 0)) (by (with_reducible repeat (first | refine qN ?_ _ | refine qD ?_ | refine qA ?_ _)); exact BK298.out) hb); have n1_ := Aside0.mk (blk_below (g := gb299) (o := .cells #[.slice A2_0 l2_0.length c2_0, .bool a2_1] 37 (0, 0)) (by (with_reducible repeat (first | refine qN ?_ _ | refine qD ?_ | refine qA ?_ _)); exact BK299.out) hb); have n2_ := Aside0.mk (below_step (by repeat (first | (with_reducible first | exact HB.out | apply pA | apply pN | apply pD | refine pS ?_ GE298.out | refine pS ?_ GE299.out) | exact HB.out)) hb); clear BK298; clear BK299; clear HB; have BK298 := n0_; have BK299 := n1_; have HB := n2_; clear n0_ n1_ n2_; (try clear hb); (try clear hb2); (try clear hk); (try clear hi); have hcz15_0 : w14.cell? ⟨gb299, 0, none⟩ = some (.slice A2_0 l2_0.length c2_0) := (blk_cell BK299.out 0).trans rfl; have hcz15_1 : w14.cell? ⟨gb299, 1, none⟩ = some (.bool a2_1) := (blk_cell BK299.out 1).trans rfl; have hfz15_0 := blk_frozen BK299.out 0; have hfz15_1 := blk_frozen BK299.out 1) | (go_at_call 21; (with_reducible refine (portreeveref07_Right.calls k _ _ l2_0 a2_1 t302 _ ?side1 ?side2 A11.out).mono ?_); (case side1 => repeat (first | exact (Kd.C_below HR2_0.out HB.out) | (with_reducible refine Kd.C_alloc ?_ _) | (with_reducible refine Kd.C_drewN ?_ _) | (with_reducible refine Kd.C_drew ?_))); (case side2 => exact HC2_0.out); rintro e w16 ⟨rfl, hb⟩; have n0_ := Aside0.mk (blk_below (g := gb298) (o := .cells #[.slice A0_0 l0_0.length c0_0, .bool a0_1] 37 (0, 0)) (by (with_reducible repeat (first | refine qN ?_ _ | refine qD ?_ | refine qA ?_ _)); exact BK298.out) hb); have n1_ := Aside0.mk (blk_below (g := gb299) (o := .cells #[.slice A2_0 l2_0.length c2_0, .bool a2_1] 37 (0, 0)) (by (with_reducible repeat (first | refine qN ?_ _ | refine qD ?_ | refine qA ?_ _)); exact BK299.out) hb); have n2_ := Aside0.mk (below_step (by repeat (first | (with_reducible first | exact HB.out | apply pA | apply pN | apply pD | refine pS ?_ GE298.out | refine pS ?_ GE299.out) | exact HB.out)) hb); clear BK298; clear BK299; clear HB; have BK298 := n0_; have BK299 := n1_; have HB := n2_; clear n0_ n1_ n2_; (try clear hb); (try clear hb2); (try clear hk); (try clear hi)))
      go_meet
      case rel => exact ⟨_, (!t302), (by first | rfl | (simp; done) | (simp [*]; done)), H', ⟨by first | omega | exact Nat.le_refl _⟩, ⟨by (with_reducible repeat (first | refine qN ?_ _ | refine qD ?_ | refine qA ?_ _)); exact BK298.out⟩, ⟨by (with_reducible repeat (first | refine qN ?_ _ | refine qD ?_ | refine qA ?_ _)); exact BK299.out⟩, ⟨by repeat (first | (with_reducible first | exact HB.out | apply pA | apply pN | apply pD | refine pS ?_ GE298.out | refine pS ?_ GE299.out) | exact HB.out)⟩⟩
    · replace c10 := Bool.eq_false_iff.mpr c10
      subst c10
      have H1 : (portreevelaw07_StuffFeeds.j0 k a1 t300 true l0_0 a0_1 l2_0 a2_1) = some r := by rw [if_neg (show ¬ (false = true) by decide)] at H; exact H
      clear H
      have H := H1
      clear H1
      have H' := Aside0.mk H
      clear H
      have hnb17 := NB298_299.out
      have hnc17 := NB299_298.out
      have hcz18_0 : w8.cell? ⟨gb298, 0, none⟩ = some (.slice A0_0 l0_0.length c0_0) := (blk_cell BK298.out 0).trans rfl
      have hcz18_1 : w8.cell? ⟨gb298, 1, none⟩ = some (.bool a0_1) := (blk_cell BK298.out 1).trans rfl
      have hfz18_0 := blk_frozen BK298.out 0
      have hfz18_1 := blk_frozen BK298.out 1
      go_wp2_with (first | ((with_reducible refine gate_callee (f := 21) rfl ?_); refine goesL_ (some 16) rfl rfl Try.func21 (by kernel_rfl) rfl #[.agg #[.slice A0_0 l0_0.length c0_0, .bool a0_1]] rfl (by (try simp only [List.map_toArray, List.map_cons, List.map_nil]); first | done | rfl | (simp only [List.length_drop, List.length_take]; rfl)) ?_; (with_reducible refine (portreeveref07_Right.calls k _ _ l0_0 a0_1 false _ ?side1 ?side2 A9.out).mono ?_); (case side1 => repeat (first | exact (Kd.C_below HR0_0.out HB.out) | (with_reducible refine Kd.C_alloc ?_ _) | (with_reducible refine Kd.C_drewN ?_ _) | (with_reducible refine Kd.C_drew ?_))); (case side2 => exact HC0_0.out); rintro e w19 ⟨rfl, hb⟩; refine ⟨_, rfl, ?_⟩; have n0_ := Aside0.mk (blk_below (g := gb298) (o := .cells #[.slice A0_0 l0_0.length c0_0, .bool a0_1] 37 (0, 0)) (by (with_reducible repeat (first | refine qN ?_ _ | refine qD ?_ | refine qA ?_ _)); exact BK298.out) hb); have n1_ := Aside0.mk (blk_below (g := gb299) (o := .cells #[.slice A2_0 l2_0.length c2_0, .bool a2_1] 37 (0, 0)) (by (with_reducible repeat (first | refine qN ?_ _ | refine qD ?_ | refine qA ?_ _)); exact BK299.out) hb); have n2_ := Aside0.mk (below_step (by repeat (first | (with_reducible first | exact HB.out | apply pA | apply pN | apply pD | refine pS ?_ GE298.out | refine pS ?_ GE299.out) | exact HB.out)) hb); clear BK298; clear BK299; clear HB; have BK298 := n0_; have BK299 := n1_; have HB := n2_; clear n0_ n1_ n2_; (try clear hb); (try clear hb2); (try clear hk); (try clear hi)))
      go_meet
      case rel => exact ⟨_, (true), (by first | rfl | (simp; done) | (simp [*]; done)), H', ⟨by first | omega | exact Nat.le_refl _⟩, ⟨by (with_reducible repeat (first | refine qN ?_ _ | refine qD ?_ | refine qA ?_ _)); exact BK298.out⟩, ⟨by (with_reducible repeat (first | refine qN ?_ _ | refine qD ?_ | refine qA ?_ _)); exact BK299.out⟩, ⟨by repeat (first | (with_reducible first | exact HB.out | apply pA | apply pN | apply pD | refine pS ?_ GE298.out | refine pS ?_ GE299.out) | exact HB.out)⟩⟩
  case rest =>
    clear HC5
    try clear c1
    try clear c2
    try clear p2
    try clear c4
    try clear c10
    try clear c12
    try clear c17
    try clear hcz13_0
    try clear hcz13_1
    try clear hcz15_0
    try clear hcz15_1
    try clear hcz18_0
    try clear hcz18_1
    try clear hfz13_0
    try clear hfz13_1
    try clear hfz15_0
    try clear hfz15_1
    try clear hfz18_0
    try clear hfz18_1
    obtain ⟨kq, x22_4, rfl, HA, HJ4, BK298, BK299, HB⟩ := hcut
    cases kq with
    | zero => exact absurd HA.out (by simp [portreevelaw07_StuffFeeds.j0])
    | succ kj4 =>
      have H := HA.out
      clear HA
      simp only [portreevelaw07_StuffFeeds.j0] at H
      by_cases c20 : x22_4 = true
      · subst c20
        have H1 : (some t300) = some r := by rw [if_pos rfl] at H; exact H
        clear H
        have H := H1
        clear H1
        clear hlaw_
        obtain rfl := Option.some.inj H
        go_wp2
        go_ret
        exact ⟨by first | rfl | (simp [errW_none, errW_some] <;> rfl) | (simp [*, errW_none, errW_some] <;> rfl), by repeat (first | (with_reducible first | exact HB.out | apply pA | apply pN | apply pD | refine pS ?_ GE298.out | refine pS ?_ GE299.out) | exact HB.out)⟩
      · replace c20 := Bool.eq_false_iff.mpr c20
        subst c20
        have H1 : ((stuff_Feed.f kj4 l0_0 a0_1 a1).bind fun bt303 => ((portreeveref07_Feed.f kj4 l0_0 a0_1 a1).bind fun bt312 => (if t300 = true then ((portreeveref07_Same.f kj4 bt303.1 bt303.2.1 bt312.1 bt312.2.1).bind fun t321 => (if t321 = true then ((portreeveref01_Row.f kj4 bt303.2.2.1 bt312.2.2.1).bind fun t322 => (if t322 = true then (if (bt303.2.2.2 == bt312.2.2.2) = true then ((stuff_Same.f l0_0 a0_1 l2_0 a2_1).bind fun t323 => ((portreeveref07_Same.f kj4 l0_0 a0_1 l2_0 a2_1).bind fun t324 => (some (t323 == t324)))) else (some false)) else (some false))) else (some false))) else (some false)))) = some r := by rw [if_neg (show ¬ (false = true) by decide)] at H; exact H
        clear H
        have H := H1
        clear H1
        replace H := Option.bind_eq_some_iff.mp H
        obtain ⟨⟨t303, t306, t307, t310⟩, A210, H⟩ := H
        replace H : ((portreeveref07_Feed.f kj4 l0_0 a0_1 a1).bind fun bt312 => (if t300 = true then ((portreeveref07_Same.f kj4 t303 t306 bt312.1 bt312.2.1).bind fun t321 => (if t321 = true then ((portreeveref01_Row.f kj4 t307 bt312.2.2.1).bind fun t322 => (if t322 = true then (if (t310 == bt312.2.2.2) = true then ((stuff_Same.f l0_0 a0_1 l2_0 a2_1).bind fun t323 => ((portreeveref07_Same.f kj4 l0_0 a0_1 l2_0 a2_1).bind fun t324 => (some (t323 == t324)))) else (some false)) else (some false))) else (some false))) else (some false))) = some r := H
        have A21 := Aside0.mk A210
        clear A210
        replace H := Option.bind_eq_some_iff.mp H
        obtain ⟨⟨t312, t315, t316, t319⟩, A220, H⟩ := H
        replace H : (if t300 = true then ((portreeveref07_Same.f kj4 t303 t306 t312 t315).bind fun t321 => (if t321 = true then ((portreeveref01_Row.f kj4 t307 t316).bind fun t322 => (if t322 = true then (if (t310 == t319) = true then ((stuff_Same.f l0_0 a0_1 l2_0 a2_1).bind fun t323 => ((portreeveref07_Same.f kj4 l0_0 a0_1 l2_0 a2_1).bind fun t324 => (some (t323 == t324)))) else (some false)) else (some false))) else (some false))) else (some false)) = some r := H
        have A22 := Aside0.mk A220
        clear A220
        by_cases c23 : t300 = true
        · subst c23
          have H1 : ((portreeveref07_Same.f kj4 t303 t306 t312 t315).bind fun t321 => (if t321 = true then ((portreeveref01_Row.f kj4 t307 t316).bind fun t322 => (if t322 = true then (if (t310 == t319) = true then ((stuff_Same.f l0_0 a0_1 l2_0 a2_1).bind fun t323 => ((portreeveref07_Same.f kj4 l0_0 a0_1 l2_0 a2_1).bind fun t324 => (some (t323 == t324)))) else (some false)) else (some false))) else (some false))) = some r := by rw [if_pos rfl] at H; exact H
          clear H
          have H := H1
          clear H1
          replace H := Option.bind_eq_some_iff.mp H
          obtain ⟨t321, A240, H⟩ := H
          replace H : (if t321 = true then ((portreeveref01_Row.f kj4 t307 t316).bind fun t322 => (if t322 = true then (if (t310 == t319) = true then ((stuff_Same.f l0_0 a0_1 l2_0 a2_1).bind fun t323 => ((portreeveref07_Same.f kj4 l0_0 a0_1 l2_0 a2_1).bind fun t324 => (some (t323 == t324)))) else (some false)) else (some false))) else (some false)) = some r := H
          have A24 := Aside0.mk A240
          clear A240
          by_cases c25 : t321 = true
          · subst c25
            have H1 : ((portreeveref01_Row.f kj4 t307 t316).bind fun t322 => (if t322 = true then (if (t310 == t319) = true then ((stuff_Same.f l0_0 a0_1 l2_0 a2_1).bind fun t323 => ((portreeveref07_Same.f kj4 l0_0 a0_1 l2_0 a2_1).bind fun t324 => (some (t323 == t324)))) else (some false)) else (some false))) = some r := by rw [if_pos rfl] at H; exact H
            clear H
            have H := H1
            clear H1
            replace H := Option.bind_eq_some_iff.mp H
            obtain ⟨t322, A260, H⟩ := H
            replace H : (if t322 = true then (if (t310 == t319) = true then ((stuff_Same.f l0_0 a0_1 l2_0 a2_1).bind fun t323 => ((portreeveref07_Same.f kj4 l0_0 a0_1 l2_0 a2_1).bind fun t324 => (some (t323 == t324)))) else (some false)) else (some false)) = some r := H
            have A26 := Aside0.mk A260
            clear A260
            by_cases c27 : t322 = true
            · subst c27
              have H1 : (if (t310 == t319) = true then ((stuff_Same.f l0_0 a0_1 l2_0 a2_1).bind fun t323 => ((portreeveref07_Same.f kj4 l0_0 a0_1 l2_0 a2_1).bind fun t324 => (some (t323 == t324)))) else (some false)) = some r := by rw [if_pos rfl] at H; exact H
              clear H
              have H := H1
              clear H1
              by_cases c28 : (t310 == t319) = true
              · rw [if_pos c28] at H
                have c28b0 : (t310 == t319) = true := c28
                (try (have c28b1 : decide (t310 = t319) = true := by simpa using c28))
                (try (have c28b2 : (t310 == t319) = true := by simpa using c28))
                clear c28
                replace H := Option.bind_eq_some_iff.mp H
                obtain ⟨t323, A290, H⟩ := H
                replace H : ((portreeveref07_Same.f kj4 l0_0 a0_1 l2_0 a2_1).bind fun t324 => (some (t323 == t324))) = some r := H
                have A29 := Aside0.mk A290
                clear A290
                replace H := Option.bind_eq_some_iff.mp H
                obtain ⟨t324, A300, H⟩ := H
                replace H : (some (t323 == t324)) = some r := H
                have A30 := Aside0.mk A300
                clear A300
                clear hlaw_
                obtain rfl := Option.some.inj H
                have hnb31 := NB298_299.out
                have hnc31 := NB299_298.out
                have hcz32_0 : wc.cell? ⟨gb298, 0, none⟩ = some (.slice A0_0 l0_0.length c0_0) := (blk_cell BK298.out 0).trans rfl
                have hcz32_1 : wc.cell? ⟨gb298, 1, none⟩ = some (.bool a0_1) := (blk_cell BK298.out 1).trans rfl
                have hfz32_0 := blk_frozen BK298.out 0
                have hfz32_1 := blk_frozen BK298.out 1
                try go_wp2_with (first | ((with_reducible refine gate_callee (f := 22) rfl ?_); refine goesL_ (some 27) rfl rfl Try.func22 (by kernel_rfl) rfl #[.agg #[.slice A0_0 l0_0.length c0_0, .bool a0_1], .int .u8 a1] rfl (by (try simp only [List.map_toArray, List.map_cons, List.map_nil]); first | done | rfl | (simp only [List.length_drop, List.length_take]; rfl)) ?_; (with_reducible refine (stuff_Feed.calls kj4 _ _ l0_0 a0_1 a1 t303 t306 t307 t310 _ ?side1 ?side2 A21.out).mono ?_); (case side1 => repeat (first | exact (Kd.C_below HR0_0.out HB.out) | (with_reducible refine Kd.C_alloc ?_ _) | (with_reducible refine Kd.C_drewN ?_ _) | (with_reducible refine Kd.C_drew ?_))); (case side2 => exact HC0_0.out); rintro e w33 ⟨v304, v308, rfl, ho0, ho1, hb⟩; refine ⟨_, rfl, ?_⟩; have n0_ := Aside0.mk (Kd.R_lower ho0 (below_size (by repeat (first | (with_reducible first | exact HB.out | apply pA | apply pN | apply pD | refine pS ?_ GE298.out | refine pS ?_ GE299.out) | exact HB.out)))); have n1_ := Aside0.mk (Kd.R_lower ho1 (below_size (by repeat (first | (with_reducible first | exact HB.out | apply pA | apply pN | apply pD | refine pS ?_ GE298.out | refine pS ?_ GE299.out) | exact HB.out)))); have n2_ := Aside0.mk (blk_below (g := gb298) (o := .cells #[.slice A0_0 l0_0.length c0_0, .bool a0_1] 37 (0, 0)) (by (with_reducible repeat (first | refine qN ?_ _ | refine qD ?_ | refine qA ?_ _)); exact BK298.out) hb); have n3_ := Aside0.mk (blk_below (g := gb299) (o := .cells #[.slice A2_0 l2_0.length c2_0, .bool a2_1] 37 (0, 0)) (by (with_reducible repeat (first | refine qN ?_ _ | refine qD ?_ | refine qA ?_ _)); exact BK299.out) hb); have n4_ := Aside0.mk (below_step (by repeat (first | (with_reducible first | exact HB.out | apply pA | apply pN | apply pD | refine pS ?_ GE298.out | refine pS ?_ GE299.out) | exact HB.out)) hb); clear BK298; clear BK299; clear HB; have HO305 := n0_; have HO309 := n1_; have BK298 := n2_; have BK299 := n3_; have HB := n4_; clear n0_ n1_ n2_ n3_ n4_; (try clear hb); (try clear hb2); (try clear hk); (try clear hi); (try clear ho0); (try clear ho1)) | ((with_reducible refine gate_dst (N := 8) rfl ?_); refine box_event ?hg (N := 8) ?hd (cs := #[.slice none 0 0, .bool false]) (t := 37) ?hr ?_; (case hd => rfl); (case hg => rfl); (case hr => first | (go_simp; done) | (go_simp; rfl)); intro gb311 hg w34 hbox hb; have n0_ := Aside0.mk (Kd.R_below (by (with_reducible repeat (first | apply Kd.R_alloc | apply Kd.R_drewN | apply Kd.R_drew)); exact HO305.out) hb); have n1_ := Aside0.mk (Kd.R_below (by (with_reducible repeat (first | apply Kd.R_alloc | apply Kd.R_drewN | apply Kd.R_drew)); exact HO309.out) hb); have n2_ := Aside0.mk (blk_below (g := gb298) (o := .cells #[.slice A0_0 l0_0.length c0_0, .bool a0_1] 37 (0, 0)) (by (with_reducible repeat (first | refine qN ?_ _ | refine qD ?_ | refine qA ?_ _)); exact BK298.out) hb); have n3_ := Aside0.mk (blk_below (g := gb299) (o := .cells #[.slice A2_0 l2_0.length c2_0, .bool a2_1] 37 (0, 0)) (by (with_reducible repeat (first | refine qN ?_ _ | refine qD ?_ | refine qA ?_ _)); exact BK299.out) hb); have n4_ := Aside0.mk (below_step (by repeat (first | (with_reducible first | exact HB.out | apply pA | apply pN | apply pD | refine pS ?_ GE298.out | refine pS ?_ GE299.out) | exact HB.out)) hb); have n5_ := Aside0.mk (hbox); have n6_ := Aside0.mk ((by rw [hg]; exact (below_size (by repeat (first | (with_reducible first | exact HB.out | apply pA | apply pN | apply pD | refine pS ?_ GE298.out | refine pS ?_ GE299.out) | exact HB.out))) : w.heap.size ≤ gb311)); have n7_ := Aside0.mk ((by rw [hg]; exact (below_size (by repeat (first | (with_reducible first | exact HB.out | apply pA | apply pN | apply pD | refine pS ?_ GE298.out | refine pS ?_ GE299.out) | exact HB.out))) : w.heap.size ≤ gb311)); have n8_ := Aside0.mk ((by rw [hg]; exact Nat.ne_of_lt (blk_lt (g := gb298) (o := .cells #[.slice A0_0 l0_0.length c0_0, .bool a0_1] 37 (0, 0)) (by (with_reducible repeat (first | refine qN ?_ _ | refine qD ?_ | refine qA ?_ _)); exact BK298.out)) : gb298 ≠ gb311)); have n9_ := Aside0.mk ((by rw [hg]; exact Nat.ne_of_gt (blk_lt (g := gb298) (o := .cells #[.slice A0_0 l0_0.length c0_0, .bool a0_1] 37 (0, 0)) (by (with_reducible repeat (first | refine qN ?_ _ | refine qD ?_ | refine qA ?_ _)); exact BK298.out)) : gb311 ≠ gb298)); have n10_ := Aside0.mk ((by rw [hg]; exact Nat.ne_of_lt (blk_lt (g := gb299) (o := .cells #[.slice A2_0 l2_0.length c2_0, .bool a2_1] 37 (0, 0)) (by (with_reducible repeat (first | refine qN ?_ _ | refine qD ?_ | refine qA ?_ _)); exact BK299.out)) : gb299 ≠ gb311)); have n11_ := Aside0.mk ((by rw [hg]; exact Nat.ne_of_gt (blk_lt (g := gb299) (o := .cells #[.slice A2_0 l2_0.length c2_0, .bool a2_1] 37 (0, 0)) (by (with_reducible repeat (first | refine qN ?_ _ | refine qD ?_ | refine qA ?_ _)); exact BK299.out)) : gb311 ≠ gb299)); clear HO305; clear HO309; clear BK298; clear BK299; clear HB; have HO305 := n0_; have HO309 := n1_; have BK298 := n2_; have BK299 := n3_; have HB := n4_; have BK311 := n5_; have GW311 := n6_; have GE311 := n7_; have NB298_311 := n8_; have NB311_298 := n9_; have NB299_311 := n10_; have NB311_299 := n11_; clear n0_ n1_ n2_ n3_ n4_ n5_ n6_ n7_ n8_ n9_ n10_ n11_; clear hb hbox hg; obtain ⟨Ao35, co35, eo35⟩ := Kd.R_slice HO305.out; subst eo35; have hnb36 := NB311_298.out; have hnc36 := NB298_311.out; have hnb37 := NB311_299.out; have hnc37 := NB299_311.out; have hcz38_0 : w34.cell? ⟨gb311, 0, none⟩ = some (.slice none 0 0) := (blk_cell BK311.out 0).trans rfl; have hcz38_1 : w34.cell? ⟨gb311, 1, none⟩ = some (.bool false) := (blk_cell BK311.out 1).trans rfl; have hfz38_0 := blk_frozen BK311.out 0; have hfz38_1 := blk_frozen BK311.out 1; have hcz39_0 : w34.cell? ⟨gb298, 0, none⟩ = some (.slice A0_0 l0_0.length c0_0) := (blk_cell BK298.out 0).trans rfl; have hcz39_1 : w34.cell? ⟨gb298, 1, none⟩ = some (.bool a0_1) := (blk_cell BK298.out 1).trans rfl; have hfz39_0 := blk_frozen BK298.out 0; have hfz39_1 := blk_frozen BK298.out 1) | ((with_reducible refine gate_callee (f := 23) rfl ?_); refine goesL_ (some 34) rfl rfl Try.func23 (by kernel_rfl) rfl #[.agg #[.slice A0_0 l0_0.length c0_0, .bool a0_1], .int .u8 a1] rfl (by (try simp only [List.map_toArray, List.map_cons, List.map_nil]); first | done | rfl | (simp only [List.length_drop, List.length_take]; rfl)) ?_; (with_reducible refine (portreeveref07_Feed.calls kj4 _ _ l0_0 a0_1 a1 t312 t315 t316 t319 _ ?side1 ?side2 A22.out).mono ?_); (case side1 => exact Kd.C_below HR0_0.out (by repeat (first | (with_reducible first | exact HB.out | apply pA | apply pN | apply pD | refine pS ?_ GE298.out | refine pS ?_ GE299.out | refine pS ?_ GE311.out) | exact HB.out))); (case side2 => exact HC0_0.out); rintro e w40 ⟨v313, v317, rfl, ho0, ho1, hb⟩; refine ⟨_, rfl, ?_⟩; have n0_ := Aside0.mk (Kd.R_mono (Kd.R_told (Kd.R_told (Kd.R_old (by (with_reducible repeat (first | apply Kd.R_alloc | apply Kd.R_drewN | apply Kd.R_drew)); exact (Kd.R_mono (Kd.R_far (p := ⟨gb311, 1, none⟩) (Kd.R_far (p := ⟨gb311, 0, none⟩) (Kd.R_types HO305.out BK311.out (by decide)) (fun _ hk => hk.2) (.slice Ao35 t303.length co35)) (fun _ hk => hk.2) (.bool t306)) (fun _ h_ => h_.1))) hb) (Kd.R_base ho0)) (Kd.R_base ho1)) (fun _ h_ => h_.1)); have n1_ := Aside0.mk (Kd.R_mono (Kd.R_told (Kd.R_told (Kd.R_old (by (with_reducible repeat (first | apply Kd.R_alloc | apply Kd.R_drewN | apply Kd.R_drew)); exact (Kd.R_mono (Kd.R_far (p := ⟨gb311, 1, none⟩) (Kd.R_far (p := ⟨gb311, 0, none⟩) (Kd.R_types HO309.out BK311.out (by decide)) (fun _ hk => hk.2) (.slice Ao35 t303.length co35)) (fun _ hk => hk.2) (.bool t306)) (fun _ h_ => h_.1))) hb) (Kd.R_base ho0)) (Kd.R_base ho1)) (fun _ h_ => h_.1)); have n2_ := Aside0.mk (Kd.R_lower (Kd.R_new' (Kd.R_new' ho0 (Kd.R_lt (by (with_reducible repeat (first | apply Kd.R_alloc | apply Kd.R_drewN | apply Kd.R_drew)); exact (Kd.R_mono (Kd.R_far (p := ⟨gb311, 1, none⟩) (Kd.R_far (p := ⟨gb311, 0, none⟩) (Kd.R_types HO305.out BK311.out (by decide)) (fun _ hk => hk.2) (.slice Ao35 t303.length co35)) (fun _ hk => hk.2) (.bool t306)) (fun _ h_ => h_.1))))) (Kd.R_lt (by (with_reducible repeat (first | apply Kd.R_alloc | apply Kd.R_drewN | apply Kd.R_drew)); exact (Kd.R_mono (Kd.R_far (p := ⟨gb311, 1, none⟩) (Kd.R_far (p := ⟨gb311, 0, none⟩) (Kd.R_types HO309.out BK311.out (by decide)) (fun _ hk => hk.2) (.slice Ao35 t303.length co35)) (fun _ hk => hk.2) (.bool t306)) (fun _ h_ => h_.1))))) (below_size (by repeat (first | (with_reducible first | exact HB.out | apply pA | apply pN | apply pD | refine pS ?_ GE298.out | refine pS ?_ GE299.out | refine pS ?_ GE311.out) | exact HB.out)))); have n3_ := Aside0.mk (Kd.R_lower (Kd.R_new' (Kd.R_new' ho1 (Kd.R_lt (by (with_reducible repeat (first | apply Kd.R_alloc | apply Kd.R_drewN | apply Kd.R_drew)); exact (Kd.R_mono (Kd.R_far (p := ⟨gb311, 1, none⟩) (Kd.R_far (p := ⟨gb311, 0, none⟩) (Kd.R_types HO305.out BK311.out (by decide)) (fun _ hk => hk.2) (.slice Ao35 t303.length co35)) (fun _ hk => hk.2) (.bool t306)) (fun _ h_ => h_.1))))) (Kd.R_lt (by (with_reducible repeat (first | apply Kd.R_alloc | apply Kd.R_drewN | apply Kd.R_drew)); exact (Kd.R_mono (Kd.R_far (p := ⟨gb311, 1, none⟩) (Kd.R_far (p := ⟨gb311, 0, none⟩) (Kd.R_types HO309.out BK311.out (by decide)) (fun _ hk => hk.2) (.slice Ao35 t303.length co35)) (fun _ hk => hk.2) (.bool t306)) (fun _ h_ => h_.1))))) (below_size (by repeat (first | (with_reducible first | exact HB.out | apply pA | apply pN | apply pD | refine pS ?_ GE298.out | refine pS ?_ GE299.out | refine pS ?_ GE311.out) | exact HB.out)))); have n4_ := Aside0.mk (blk_below (g := gb298) (o := .cells #[.slice A0_0 l0_0.length c0_0, .bool a0_1] 37 (0, 0)) (by (with_reducible repeat (first | refine qN ?_ _ | refine qD ?_ | refine qA ?_ _)); refine blk_far ?_ NB298_311.out _; (with_reducible repeat (first | refine qN ?_ _ | refine qD ?_ | refine qA ?_ _)); refine blk_far ?_ NB298_311.out _; (with_reducible repeat (first | refine qN ?_ _ | refine qD ?_ | refine qA ?_ _)); exact BK298.out) hb); have n5_ := Aside0.mk (blk_below (g := gb299) (o := .cells #[.slice A2_0 l2_0.length c2_0, .bool a2_1] 37 (0, 0)) (by (with_reducible repeat (first | refine qN ?_ _ | refine qD ?_ | refine qA ?_ _)); refine blk_far ?_ NB299_311.out _; (with_reducible repeat (first | refine qN ?_ _ | refine qD ?_ | refine qA ?_ _)); refine blk_far ?_ NB299_311.out _; (with_reducible repeat (first | refine qN ?_ _ | refine qD ?_ | refine qA ?_ _)); exact BK299.out) hb); have n6_ := Aside0.mk (blk_below (g := gb311) (o := .cells #[.slice Ao35 t303.length co35, .bool t306] 37 (0, 0)) (by (with_reducible repeat (first | refine qN ?_ _ | refine qD ?_ | refine qA ?_ _)); refine blk_put (cs := #[.slice Ao35 t303.length co35, .bool false]) ?_ 1 _ rfl; (with_reducible repeat (first | refine qN ?_ _ | refine qD ?_ | refine qA ?_ _)); refine blk_put (cs := #[.slice none 0 0, .bool false]) ?_ 0 _ rfl; (with_reducible repeat (first | refine qN ?_ _ | refine qD ?_ | refine qA ?_ _)); exact BK311.out) hb); have n7_ := Aside0.mk (below_step (by repeat (first | (with_reducible first | exact HB.out | apply pA | apply pN | apply pD | refine pS ?_ GE298.out | refine pS ?_ GE299.out | refine pS ?_ GE311.out) | exact HB.out)) hb); clear HO305; clear HO309; clear BK298; clear BK299; clear BK311; clear HB; have HO305 := n0_; have HO309 := n1_; have HO314 := n2_; have HO318 := n3_; have BK298 := n4_; have BK299 := n5_; have BK311 := n6_; have HB := n7_; clear n0_ n1_ n2_ n3_ n4_ n5_ n6_ n7_; (try clear hb); (try clear hb2); (try clear hk); (try clear hi); (try clear ho0); (try clear ho1)) | ((with_reducible refine gate_dst (N := 11) rfl ?_); refine box_event ?hg (N := 11) ?hd (cs := #[.slice none 0 0, .bool false]) (t := 37) ?hr ?_; (case hd => rfl); (case hg => rfl); (case hr => first | (go_simp; done) | (go_simp; rfl)); intro gb320 hg w41 hbox hb; have n0_ := Aside0.mk (Kd.R_below (by (with_reducible repeat (first | apply Kd.R_alloc | apply Kd.R_drewN | apply Kd.R_drew)); exact HO305.out) hb); have n1_ := Aside0.mk (Kd.R_below (by (with_reducible repeat (first | apply Kd.R_alloc | apply Kd.R_drewN | apply Kd.R_drew)); exact HO309.out) hb); have n2_ := Aside0.mk (Kd.R_below (by (with_reducible repeat (first | apply Kd.R_alloc | apply Kd.R_drewN | apply Kd.R_drew)); exact HO314.out) hb); have n3_ := Aside0.mk (Kd.R_below (by (with_reducible repeat (first | apply Kd.R_alloc | apply Kd.R_drewN | apply Kd.R_drew)); exact HO318.out) hb); have n4_ := Aside0.mk (blk_below (g := gb298) (o := .cells #[.slice A0_0 l0_0.length c0_0, .bool a0_1] 37 (0, 0)) (by (with_reducible repeat (first | refine qN ?_ _ | refine qD ?_ | refine qA ?_ _)); exact BK298.out) hb); have n5_ := Aside0.mk (blk_below (g := gb299) (o := .cells #[.slice A2_0 l2_0.length c2_0, .bool a2_1] 37 (0, 0)) (by (with_reducible repeat (first | refine qN ?_ _ | refine qD ?_ | refine qA ?_ _)); exact BK299.out) hb); have n6_ := Aside0.mk (blk_below (g := gb311) (o := .cells #[.slice Ao35 t303.length co35, .bool t306] 37 (0, 0)) (by (with_reducible repeat (first | refine qN ?_ _ | refine qD ?_ | refine qA ?_ _)); exact BK311.out) hb); have n7_ := Aside0.mk (below_step (by repeat (first | (with_reducible first | exact HB.out | apply pA | apply pN | apply pD | refine pS ?_ GE298.out | refine pS ?_ GE299.out | refine pS ?_ GE311.out) | exact HB.out)) hb); have n8_ := Aside0.mk (hbox); have n9_ := Aside0.mk ((by rw [hg]; exact (below_size (by repeat (first | (with_reducible first | exact HB.out | apply pA | apply pN | apply pD | refine pS ?_ GE298.out | refine pS ?_ GE299.out | refine pS ?_ GE311.out) | exact HB.out))) : w.heap.size ≤ gb320)); have n10_ := Aside0.mk ((by rw [hg]; exact (below_size (by repeat (first | (with_reducible first | exact HB.out | apply pA | apply pN | apply pD | refine pS ?_ GE298.out | refine pS ?_ GE299.out | refine pS ?_ GE311.out) | exact HB.out))) : w.heap.size ≤ gb320)); have n11_ := Aside0.mk ((by rw [hg]; exact Nat.ne_of_lt (blk_lt (g := gb298) (o := .cells #[.slice A0_0 l0_0.length c0_0, .bool a0_1] 37 (0, 0)) (by (with_reducible repeat (first | refine qN ?_ _ | refine qD ?_ | refine qA ?_ _)); exact BK298.out)) : gb298 ≠ gb320)); have n12_ := Aside0.mk ((by rw [hg]; exact Nat.ne_of_gt (blk_lt (g := gb298) (o := .cells #[.slice A0_0 l0_0.length c0_0, .bool a0_1] 37 (0, 0)) (by (with_reducible repeat (first | refine qN ?_ _ | refine qD ?_ | refine qA ?_ _)); exact BK298.out)) : gb320 ≠ gb298)); have n13_ := Aside0.mk ((by rw [hg]; exact Nat.ne_of_lt (blk_lt (g := gb299) (o := .cells #[.slice A2_0 l2_0.length c2_0, .bool a2_1] 37 (0, 0)) (by (with_reducible repeat (first | refine qN ?_ _ | refine qD ?_ | refine qA ?_ _)); exact BK299.out)) : gb299 ≠ gb320)); have n14_ := Aside0.mk ((by rw [hg]; exact Nat.ne_of_gt (blk_lt (g := gb299) (o := .cells #[.slice A2_0 l2_0.length c2_0, .bool a2_1] 37 (0, 0)) (by (with_reducible repeat (first | refine qN ?_ _ | refine qD ?_ | refine qA ?_ _)); exact BK299.out)) : gb320 ≠ gb299)); have n15_ := Aside0.mk ((by rw [hg]; exact Nat.ne_of_lt (blk_lt (g := gb311) (o := .cells #[.slice Ao35 t303.length co35, .bool t306] 37 (0, 0)) (by (with_reducible repeat (first | refine qN ?_ _ | refine qD ?_ | refine qA ?_ _)); exact BK311.out)) : gb311 ≠ gb320)); have n16_ := Aside0.mk ((by rw [hg]; exact Nat.ne_of_gt (blk_lt (g := gb311) (o := .cells #[.slice Ao35 t303.length co35, .bool t306] 37 (0, 0)) (by (with_reducible repeat (first | refine qN ?_ _ | refine qD ?_ | refine qA ?_ _)); exact BK311.out)) : gb320 ≠ gb311)); clear HO305; clear HO309; clear HO314; clear HO318; clear BK298; clear BK299; clear BK311; clear HB; have HO305 := n0_; have HO309 := n1_; have HO314 := n2_; have HO318 := n3_; have BK298 := n4_; have BK299 := n5_; have BK311 := n6_; have HB := n7_; have BK320 := n8_; have GW320 := n9_; have GE320 := n10_; have NB298_320 := n11_; have NB320_298 := n12_; have NB299_320 := n13_; have NB320_299 := n14_; have NB311_320 := n15_; have NB320_311 := n16_; clear n0_ n1_ n2_ n3_ n4_ n5_ n6_ n7_ n8_ n9_ n10_ n11_ n12_ n13_ n14_ n15_ n16_; clear hb hbox hg; obtain ⟨Ao42, co42, eo42⟩ := Kd.R_slice HO314.out; subst eo42; have hnb43 := NB320_298.out; have hnc43 := NB298_320.out; have hnb44 := NB320_299.out; have hnc44 := NB299_320.out; have hnb45 := NB320_311.out; have hnc45 := NB311_320.out; have hcz46_0 : w41.cell? ⟨gb320, 0, none⟩ = some (.slice none 0 0) := (blk_cell BK320.out 0).trans rfl; have hcz46_1 : w41.cell? ⟨gb320, 1, none⟩ = some (.bool false) := (blk_cell BK320.out 1).trans rfl; have hfz46_0 := blk_frozen BK320.out 0; have hfz46_1 := blk_frozen BK320.out 1))
                have n0_ : Aside0 (Kd.R (Kd.int .u8) 5 ((w41.setCell ⟨gb320, 0, none⟩ (.slice Ao42 t312.length co42)).setCell ⟨gb320, 1, none⟩ (.bool t315)) w.heap.size (fun k_ => some k_ ≠ (v308 : Value).ownBlock ∧ some k_ ≠ (.slice Ao42 t312.length co42 : Value).ownBlock ∧ some k_ ≠ (v317 : Value).ownBlock) (.slice Ao35 t303.length co35) t303) := ⟨by (with_reducible repeat (first | apply Kd.R_alloc | apply Kd.R_drewN | apply Kd.R_drew)); exact Kd.R_mono (Kd.R_far (p := ⟨gb320, 1, none⟩) (Kd.R_far (p := ⟨gb320, 0, none⟩) (Kd.R_types HO305.out BK320.out (by decide)) (fun _ hk => hk.2) (.slice Ao42 t312.length co42)) (fun _ hk => hk.2) (.bool t315)) (fun _ hk => ⟨hk.1.1.1, ⟨hk.1.1.2, hk.1.2⟩⟩)⟩
                have n1_ : Aside0 (Kd.R (Kd.int .u8) 5 ((w41.setCell ⟨gb320, 0, none⟩ (.slice Ao42 t312.length co42)).setCell ⟨gb320, 1, none⟩ (.bool t315)) w.heap.size (fun k_ => some k_ ≠ (.slice Ao35 t303.length co35 : Value).ownBlock ∧ some k_ ≠ (.slice Ao42 t312.length co42 : Value).ownBlock ∧ some k_ ≠ (v317 : Value).ownBlock) v308 t307) := ⟨by (with_reducible repeat (first | apply Kd.R_alloc | apply Kd.R_drewN | apply Kd.R_drew)); exact Kd.R_mono (Kd.R_far (p := ⟨gb320, 1, none⟩) (Kd.R_far (p := ⟨gb320, 0, none⟩) (Kd.R_types HO309.out BK320.out (by decide)) (fun _ hk => hk.2) (.slice Ao42 t312.length co42)) (fun _ hk => hk.2) (.bool t315)) (fun _ hk => ⟨hk.1.1.1, ⟨hk.1.1.2, hk.1.2⟩⟩)⟩
                have n2_ : Aside0 (Kd.R (Kd.int .u8) 5 ((w41.setCell ⟨gb320, 0, none⟩ (.slice Ao42 t312.length co42)).setCell ⟨gb320, 1, none⟩ (.bool t315)) w.heap.size (fun k_ => some k_ ≠ (.slice Ao35 t303.length co35 : Value).ownBlock ∧ some k_ ≠ (v308 : Value).ownBlock ∧ some k_ ≠ (v317 : Value).ownBlock) (.slice Ao42 t312.length co42) t312) := ⟨by (with_reducible repeat (first | apply Kd.R_alloc | apply Kd.R_drewN | apply Kd.R_drew)); exact Kd.R_mono (Kd.R_far (p := ⟨gb320, 1, none⟩) (Kd.R_far (p := ⟨gb320, 0, none⟩) (Kd.R_types HO314.out BK320.out (by decide)) (fun _ hk => hk.2) (.slice Ao42 t312.length co42)) (fun _ hk => hk.2) (.bool t315)) (fun _ hk => ⟨hk.1.1.2, ⟨hk.1.2, hk.1.1.1⟩⟩)⟩
                have n3_ : Aside0 (Kd.R (Kd.int .u8) 5 ((w41.setCell ⟨gb320, 0, none⟩ (.slice Ao42 t312.length co42)).setCell ⟨gb320, 1, none⟩ (.bool t315)) w.heap.size (fun k_ => some k_ ≠ (.slice Ao35 t303.length co35 : Value).ownBlock ∧ some k_ ≠ (v308 : Value).ownBlock ∧ some k_ ≠ (.slice Ao42 t312.length co42 : Value).ownBlock) v317 t316) := ⟨by (with_reducible repeat (first | apply Kd.R_alloc | apply Kd.R_drewN | apply Kd.R_drew)); exact Kd.R_mono (Kd.R_far (p := ⟨gb320, 1, none⟩) (Kd.R_far (p := ⟨gb320, 0, none⟩) (Kd.R_types HO318.out BK320.out (by decide)) (fun _ hk => hk.2) (.slice Ao42 t312.length co42)) (fun _ hk => hk.2) (.bool t315)) (fun _ hk => ⟨hk.1.1.2, ⟨hk.1.2, hk.1.1.1⟩⟩)⟩
                have n4_ : Aside0 (((w41.setCell ⟨gb320, 0, none⟩ (.slice Ao42 t312.length co42)).setCell ⟨gb320, 1, none⟩ (.bool t315)).heap[gb298]? = some (.cells #[.slice A0_0 l0_0.length c0_0, .bool a0_1] 37 (0, 0))) := ⟨by (with_reducible repeat (first | refine qN ?_ _ | refine qD ?_ | refine qA ?_ _)); refine blk_far ?_ NB298_320.out _; (with_reducible repeat (first | refine qN ?_ _ | refine qD ?_ | refine qA ?_ _)); refine blk_far ?_ NB298_320.out _; (with_reducible repeat (first | refine qN ?_ _ | refine qD ?_ | refine qA ?_ _)); exact BK298.out⟩
                have n5_ : Aside0 (((w41.setCell ⟨gb320, 0, none⟩ (.slice Ao42 t312.length co42)).setCell ⟨gb320, 1, none⟩ (.bool t315)).heap[gb299]? = some (.cells #[.slice A2_0 l2_0.length c2_0, .bool a2_1] 37 (0, 0))) := ⟨by (with_reducible repeat (first | refine qN ?_ _ | refine qD ?_ | refine qA ?_ _)); refine blk_far ?_ NB299_320.out _; (with_reducible repeat (first | refine qN ?_ _ | refine qD ?_ | refine qA ?_ _)); refine blk_far ?_ NB299_320.out _; (with_reducible repeat (first | refine qN ?_ _ | refine qD ?_ | refine qA ?_ _)); exact BK299.out⟩
                have n6_ : Aside0 (((w41.setCell ⟨gb320, 0, none⟩ (.slice Ao42 t312.length co42)).setCell ⟨gb320, 1, none⟩ (.bool t315)).heap[gb311]? = some (.cells #[.slice Ao35 t303.length co35, .bool t306] 37 (0, 0))) := ⟨by (with_reducible repeat (first | refine qN ?_ _ | refine qD ?_ | refine qA ?_ _)); refine blk_far ?_ NB311_320.out _; (with_reducible repeat (first | refine qN ?_ _ | refine qD ?_ | refine qA ?_ _)); refine blk_far ?_ NB311_320.out _; (with_reducible repeat (first | refine qN ?_ _ | refine qD ?_ | refine qA ?_ _)); exact BK311.out⟩
                have n7_ : Aside0 (((w41.setCell ⟨gb320, 0, none⟩ (.slice Ao42 t312.length co42)).setCell ⟨gb320, 1, none⟩ (.bool t315)).heap[gb320]? = some (.cells #[.slice Ao42 t312.length co42, .bool t315] 37 (0, 0))) := ⟨by (with_reducible repeat (first | refine qN ?_ _ | refine qD ?_ | refine qA ?_ _)); refine blk_put (cs := #[.slice Ao42 t312.length co42, .bool false]) ?_ 1 _ rfl; (with_reducible repeat (first | refine qN ?_ _ | refine qD ?_ | refine qA ?_ _)); refine blk_put (cs := #[.slice none 0 0, .bool false]) ?_ 0 _ rfl; (with_reducible repeat (first | refine qN ?_ _ | refine qD ?_ | refine qA ?_ _)); exact BK320.out⟩
                have n8_ : Aside0 (Below w.heap.size w ((w41.setCell ⟨gb320, 0, none⟩ (.slice Ao42 t312.length co42)).setCell ⟨gb320, 1, none⟩ (.bool t315))) := ⟨by repeat (first | (with_reducible first | exact HB.out | apply pA | apply pN | apply pD | refine pS ?_ GE298.out | refine pS ?_ GE299.out | refine pS ?_ GE311.out | refine pS ?_ GE320.out) | exact HB.out)⟩
                (try clear HO305)
                (try clear HO309)
                (try clear HO314)
                (try clear HO318)
                (try clear BK298)
                (try clear BK299)
                (try clear BK311)
                (try clear BK320)
                (try clear HB)
                generalize ((w41.setCell ⟨gb320, 0, none⟩ (.slice Ao42 t312.length co42)).setCell ⟨gb320, 1, none⟩ (.bool t315)) = w47 at n0_ n1_ n2_ n3_ n4_ n5_ n6_ n7_ n8_ ⊢
                have HO305 := n0_
                have HO309 := n1_
                have HO314 := n2_
                have HO318 := n3_
                have BK298 := n4_
                have BK299 := n5_
                have BK311 := n6_
                have BK320 := n7_
                have HB := n8_
                clear n0_ n1_ n2_ n3_ n4_ n5_ n6_ n7_ n8_
                have n0_ := Aside0.mk (Kd.R_drew HO305.out)
                have n1_ := Aside0.mk (Kd.R_drew HO309.out)
                have n2_ := Aside0.mk (Kd.R_drew HO314.out)
                have n3_ := Aside0.mk (Kd.R_drew HO318.out)
                have n4_ := Aside0.mk (qD BK298.out)
                have n5_ := Aside0.mk (qD BK299.out)
                have n6_ := Aside0.mk (qD BK311.out)
                have n7_ := Aside0.mk (qD BK320.out)
                have n8_ := Aside0.mk (pD HB.out)
                clear HO305
                clear HO309
                clear HO314
                clear HO318
                clear BK298
                clear BK299
                clear BK311
                clear BK320
                clear HB
                have HO305 := n0_
                have HO309 := n1_
                have HO314 := n2_
                have HO318 := n3_
                have BK298 := n4_
                have BK299 := n5_
                have BK311 := n6_
                have BK320 := n7_
                have HB := n8_
                clear n0_ n1_ n2_ n3_ n4_ n5_ n6_ n7_ n8_
                refine start_ (n := 26) (S := fun w' => w'.cell? ⟨gb311, 0, none⟩ = some (.slice Ao35 t303.length co35) ∧ w'.cell? ⟨gb311, 1, none⟩ = some (.bool t306) ∧ w'.cell? ⟨gb320, 0, none⟩ = some (.slice Ao42 t312.length co42) ∧ w'.cell? ⟨gb320, 1, none⟩ = some (.bool t315) ∧ w'.cell? ⟨gb298, 0, none⟩ = some (.slice A0_0 l0_0.length c0_0) ∧ w'.cell? ⟨gb298, 1, none⟩ = some (.bool a0_1) ∧ w'.cell? ⟨gb299, 0, none⟩ = some (.slice A2_0 l2_0.length c2_0) ∧ w'.cell? ⟨gb299, 1, none⟩ = some (.bool a2_1)) (ds := []) #[false, false, false, false, false, false, false, false, false, false, false, false, false, false, false, false, false, false, false, false, false, false, false, false, false, false] (by kernel_rfl) rfl rfl ⟨(blk_cell BK311.out 0).trans rfl, (blk_cell BK311.out 1).trans rfl, (blk_cell BK320.out 0).trans rfl, (blk_cell BK320.out 1).trans rfl, (blk_cell BK298.out 0).trans rfl, (blk_cell BK298.out 1).trans rfl, (blk_cell BK299.out 0).trans rfl, (blk_cell BK299.out 1).trans rfl⟩ (fun hHeld => ?_); refine with_tabW portreevelaw07_StuffFeeds.tab6 portreevelaw07_StuffFeeds.bits6 (fun HT_ HW_ => ?_)
                generalize w47.drew = w48 at HO305 HO309 HO314 HO318 BK298 BK299 BK311 BK320 HB hHeld ⊢
                refine pure_ (i := 0) (N := some 38) (v := ?_) (a' := ?_) #[true, false, false, false, false, false, false, false, false, false, false, false, false, false, false, false, false, false, false, false, false, false, false, false, false, false] rfl rfl (any_of HT_.out (by kernel_rfl)) (fun _ _ _ h => h) (Or.inl ⟨by rfl, ?_⟩) ?_ ?_
                rotate_left
                · intro w'
                  go_simp
                  with_reducible rfl
                rotate_left
                · simp only [Act.put, List.setIfInBounds_toArray, List.set_cons_zero, List.set_cons_succ, i64_w, i32_w]
                  rfl
                refine pure_ (i := 1) (N := some 39) (v := ?_) (a' := ?_) #[true, true, false, false, false, false, false, false, false, false, false, false, false, false, false, false, false, false, false, false, false, false, false, false, false, false] rfl rfl (any_of HT_.out (by kernel_rfl)) (fun _ _ _ h => h) (Or.inl ⟨by rfl, ?_⟩) ?_ ?_
                rotate_left
                · intro w'
                  go_simp
                  with_reducible rfl
                rotate_left
                · simp only [Act.put, List.setIfInBounds_toArray, List.set_cons_zero, List.set_cons_succ, i64_w, i32_w]
                  rfl
                refine take_ (i := 2) (N := some 40) (v := ?_) (a' := ?_) #[true, true, true, false, false, false, false, false, false, false, false, false, false, false, false, false, false, false, false, false, false, false, false, false, false, false] rfl rfl (take_ofW HT_.out HW_.out (by kernel_rfl)) (fun _ _ _ h => h) (Or.inl ⟨by rfl, ?_⟩) hHeld ?_ ?_
                rotate_left
                · rintro w' ⟨s0, s1, s2, s3, s4, s5, s6, s7⟩
                  go_simp
                  with_reducible rfl
                rotate_left
                · simp only [Act.put, List.setIfInBounds_toArray, List.set_cons_zero, List.set_cons_succ, i64_w, i32_w]
                  rfl
                refine take_ (i := 3) (N := some 41) (v := ?_) (a' := ?_) #[true, true, true, true, false, false, false, false, false, false, false, false, false, false, false, false, false, false, false, false, false, false, false, false, false, false] rfl rfl (take_ofW HT_.out HW_.out (by kernel_rfl)) (fun _ _ _ h => h) (Or.inl ⟨by rfl, ?_⟩) hHeld ?_ ?_
                rotate_left
                · rintro w' ⟨s0, s1, s2, s3, s4, s5, s6, s7⟩
                  go_simp
                  with_reducible rfl
                rotate_left
                · simp only [Act.put, List.setIfInBounds_toArray, List.set_cons_zero, List.set_cons_succ, i64_w, i32_w]
                  rfl
                refine one_ (i := 4) (N := some 42) #[true, true, true, true, true, false, false, false, false, false, false, false, false, false, false, false, false, false, false, false, false, false, false, false, false, false] rfl rfl (one_of HT_.out (by kernel_rfl)) (by decide) (fun K hK => ?_)
                refine goes_ Try.func24 (by kernel_rfl) rfl #[.agg #[.slice Ao35 t303.length co35, .bool t306], .agg #[.slice Ao42 t312.length co42, .bool t315]] (by rfl) rfl rfl (by (try simp only [List.map_toArray, List.map_cons, List.map_nil]); first | done | rfl | (simp only [List.length_drop, List.length_take]; rfl)) ?_
                with_reducible refine (portreeveref07_Same.calls kj4 _ _ t303 t306 _ _ t312 t315 true _ ?side1 ?side2 ?side3 ?side4 A24.out).mono ?_
                (case side1 => repeat (first | exact (Kd.R_reads' HO305.out).2.2 | (with_reducible refine Kd.C_alloc ?_ _) | (with_reducible refine Kd.C_drewN ?_ _) | (with_reducible refine Kd.C_drew ?_)))
                (case side2 => exact (Kd.R_reads' HO305.out).2.1)
                (case side3 => repeat (first | exact (Kd.R_reads' HO314.out).2.2 | (with_reducible refine Kd.C_alloc ?_ _) | (with_reducible refine Kd.C_drewN ?_ _) | (with_reducible refine Kd.C_drew ?_)))
                (case side4 => exact (Kd.R_reads' HO314.out).2.1)
                rintro e w49 ⟨rfl, hb⟩
                refine ⟨_, rfl, ?_⟩
                have n0_ := Aside0.mk (Kd.R_below (by (with_reducible repeat (first | apply Kd.R_alloc | apply Kd.R_drewN | apply Kd.R_drew)); exact HO305.out) hb)
                have n1_ := Aside0.mk (Kd.R_below (by (with_reducible repeat (first | apply Kd.R_alloc | apply Kd.R_drewN | apply Kd.R_drew)); exact HO309.out) hb)
                have n2_ := Aside0.mk (Kd.R_below (by (with_reducible repeat (first | apply Kd.R_alloc | apply Kd.R_drewN | apply Kd.R_drew)); exact HO314.out) hb)
                have n3_ := Aside0.mk (Kd.R_below (by (with_reducible repeat (first | apply Kd.R_alloc | apply Kd.R_drewN | apply Kd.R_drew)); exact HO318.out) hb)
                have n4_ := Aside0.mk (blk_below (g := gb298) (o := .cells #[.slice A0_0 l0_0.length c0_0, .bool a0_1] 37 (0, 0)) (by (with_reducible repeat (first | refine qN ?_ _ | refine qD ?_ | refine qA ?_ _)); exact BK298.out) hb)
                have n5_ := Aside0.mk (blk_below (g := gb299) (o := .cells #[.slice A2_0 l2_0.length c2_0, .bool a2_1] 37 (0, 0)) (by (with_reducible repeat (first | refine qN ?_ _ | refine qD ?_ | refine qA ?_ _)); exact BK299.out) hb)
                have n6_ := Aside0.mk (blk_below (g := gb311) (o := .cells #[.slice Ao35 t303.length co35, .bool t306] 37 (0, 0)) (by (with_reducible repeat (first | refine qN ?_ _ | refine qD ?_ | refine qA ?_ _)); exact BK311.out) hb)
                have n7_ := Aside0.mk (blk_below (g := gb320) (o := .cells #[.slice Ao42 t312.length co42, .bool t315] 37 (0, 0)) (by (with_reducible repeat (first | refine qN ?_ _ | refine qD ?_ | refine qA ?_ _)); exact BK320.out) hb)
                have n8_ := Aside0.mk (below_step (by repeat (first | (with_reducible first | exact HB.out | apply pA | apply pN | apply pD | refine pS ?_ GE298.out | refine pS ?_ GE299.out | refine pS ?_ GE311.out | refine pS ?_ GE320.out) | exact HB.out)) hb)
                clear HO305
                clear HO309
                clear HO314
                clear HO318
                clear BK298
                clear BK299
                clear BK311
                clear BK320
                clear HB
                have HO305 := n0_
                have HO309 := n1_
                have HO314 := n2_
                have HO318 := n3_
                have BK298 := n4_
                have BK299 := n5_
                have BK311 := n6_
                have BK320 := n7_
                have HB := n8_
                clear n0_ n1_ n2_ n3_ n4_ n5_ n6_ n7_ n8_
                (try clear hb)
                (try clear hb2)
                (try clear hk)
                (try clear hi)
                obtain ⟨Ao50, co50, eo50⟩ := Kd.R_slice HO309.out
                (first | subst eo50 | (injection eo50 with f1_ f2_ f3_; have f4_ := f1_.symm; have f5_ := f3_.symm; clear f1_ f2_ f3_; subst f4_; subst f5_))
                obtain ⟨Ao51, co51, eo51⟩ := Kd.R_slice HO318.out
                (first | subst eo51 | (injection eo51 with f1_ f2_ f3_; have f4_ := f1_.symm; have f5_ := f3_.symm; clear f1_ f2_ f3_; subst f4_; subst f5_))
                refine hK.out _ _ ⟨(blk_cell BK311.out 0).trans rfl, (blk_cell BK311.out 1).trans rfl, (blk_cell BK320.out 0).trans rfl, (blk_cell BK320.out 1).trans rfl, (blk_cell BK298.out 0).trans rfl, (blk_cell BK298.out 1).trans rfl, (blk_cell BK299.out 0).trans rfl, (blk_cell BK299.out 1).trans rfl⟩ (fun hHeld => ?_)
                clear hK K
                refine norm_ (a' := ?_) ?_ ?_
                rotate_left
                · show Act.put _ (some 42) _ = _
                  simp only [Act.put, List.setIfInBounds_toArray, List.set_cons_zero, List.set_cons_succ, i64_w, i32_w]
                  rfl
                refine pure_ (i := 5) (N := some 43) (v := ?_) (a' := ?_) #[true, true, true, true, true, true, false, false, false, false, false, false, false, false, false, false, false, false, false, false, false, false, false, false, false, false] rfl rfl (any_of HT_.out (by kernel_rfl)) (fun _ _ _ h => h) (Or.inl ⟨by rfl, ?_⟩) ?_ ?_
                rotate_left
                · intro w'
                  go_simp
                  with_reducible rfl
                rotate_left
                · simp only [Act.put, List.setIfInBounds_toArray, List.set_cons_zero, List.set_cons_succ, i64_w, i32_w]
                  rfl
                refine pure_ (i := 6) (N := some 44) (v := ?_) (a' := ?_) #[true, true, true, true, true, true, true, false, false, false, false, false, false, false, false, false, false, false, false, false, false, false, false, false, false, false] rfl rfl (any_of HT_.out (by kernel_rfl)) (fun _ _ _ h => h) (Or.inl ⟨by rfl, ?_⟩) ?_ ?_
                rotate_left
                · intro w'
                  go_simp
                  with_reducible rfl
                rotate_left
                · simp only [Act.put, List.setIfInBounds_toArray, List.set_cons_zero, List.set_cons_succ, i64_w, i32_w]
                  rfl
                refine pure_ (i := 7) (N := some 45) (v := ?_) (a' := ?_) #[true, true, true, true, true, true, true, true, false, false, false, false, false, false, false, false, false, false, false, false, false, false, false, false, false, false] rfl rfl (any_of HT_.out (by kernel_rfl)) (fun _ _ _ h => h) (Or.inl ⟨by rfl, ?_⟩) ?_ ?_
                rotate_left
                · intro w'
                  go_simp
                  with_reducible rfl
                rotate_left
                · simp only [Act.put, List.setIfInBounds_toArray, List.set_cons_zero, List.set_cons_succ, i64_w, i32_w]
                  rfl
                refine pure_ (i := 8) (N := some 46) (v := ?_) (a' := ?_) #[true, true, true, true, true, true, true, true, true, false, false, false, false, false, false, false, false, false, false, false, false, false, false, false, false, false] rfl rfl (any_of HT_.out (by kernel_rfl)) (fun _ _ _ h => h) (Or.inl ⟨by rfl, ?_⟩) ?_ ?_
                rotate_left
                · intro w'
                  go_simp
                  with_reducible rfl
                rotate_left
                · simp only [Act.put, List.setIfInBounds_toArray, List.set_cons_zero, List.set_cons_succ, i64_w, i32_w]
                  rfl
                refine one_ (i := 9) (N := some 47) #[true, true, true, true, true, true, true, true, true, true, false, false, false, false, false, false, false, false, false, false, false, false, false, false, false, false] rfl rfl (one_of HT_.out (by kernel_rfl)) (by decide) (fun K hK => ?_)
                refine goes_ Try.func13 (by kernel_rfl) rfl #[.slice Ao50 t307.length co50, .slice Ao51 t316.length co51] (by rfl) rfl rfl (by (try simp only [List.map_toArray, List.map_cons, List.map_nil]); first | done | rfl | (simp only [List.length_drop, List.length_take]; rfl)) ?_
                with_reducible refine (portreeveref01_Row.calls kj4 _ _ t307 _ _ t316 true _ ?side1 ?side2 ?side3 ?side4 A26.out).mono ?_
                (case side1 => repeat (first | exact (Kd.R_reads' HO309.out).2.2 | (with_reducible refine Kd.C_alloc ?_ _) | (with_reducible refine Kd.C_drewN ?_ _) | (with_reducible refine Kd.C_drew ?_)))
                (case side2 => exact (Kd.R_reads' HO309.out).2.1)
                (case side3 => repeat (first | exact (Kd.R_reads' HO318.out).2.2 | (with_reducible refine Kd.C_alloc ?_ _) | (with_reducible refine Kd.C_drewN ?_ _) | (with_reducible refine Kd.C_drew ?_)))
                (case side4 => exact (Kd.R_reads' HO318.out).2.1)
                rintro e w' ⟨rfl, ⟨nd, rfl⟩⟩
                refine ⟨_, rfl, ?_⟩
                refine hK.out _ _ ⟨(blk_cell BK311.out 0).trans rfl, (blk_cell BK311.out 1).trans rfl, (blk_cell BK320.out 0).trans rfl, (blk_cell BK320.out 1).trans rfl, (blk_cell BK298.out 0).trans rfl, (blk_cell BK298.out 1).trans rfl, (blk_cell BK299.out 0).trans rfl, (blk_cell BK299.out 1).trans rfl⟩ (fun hHeld => ?_)
                clear hK K
                refine norm_ (a' := ?_) ?_ ?_
                rotate_left
                · show Act.put _ (some 47) _ = _
                  simp only [Act.put, List.setIfInBounds_toArray, List.set_cons_zero, List.set_cons_succ, i64_w, i32_w]
                  rfl
                refine pure_ (i := 10) (N := some 48) (v := ?_) (a' := ?_) #[true, true, true, true, true, true, true, true, true, true, true, false, false, false, false, false, false, false, false, false, false, false, false, false, false, false] rfl rfl (any_of HT_.out (by kernel_rfl)) (fun _ _ _ h => h) (Or.inl ⟨by rfl, ?_⟩) ?_ ?_
                rotate_left
                · intro w'
                  go_simp
                  with_reducible rfl
                rotate_left
                · simp only [Act.put, List.setIfInBounds_toArray, List.set_cons_zero, List.set_cons_succ, i64_w, i32_w]
                  rfl
                refine pure_ (i := 11) (N := some 49) (v := ?_) (a' := ?_) #[true, true, true, true, true, true, true, true, true, true, true, true, false, false, false, false, false, false, false, false, false, false, false, false, false, false] rfl rfl (any_of HT_.out (by kernel_rfl)) (fun _ _ _ h => h) (Or.inl ⟨by rfl, ?_⟩) ?_ ?_
                rotate_left
                · intro w'
                  go_simp
                  with_reducible rfl
                rotate_left
                · simp only [Act.put, List.setIfInBounds_toArray, List.set_cons_zero, List.set_cons_succ, i64_w, i32_w]
                  rfl
                refine pure_ (i := 12) (N := some 50) (v := ?_) (a' := ?_) #[true, true, true, true, true, true, true, true, true, true, true, true, true, false, false, false, false, false, false, false, false, false, false, false, false, false] rfl rfl (any_of HT_.out (by kernel_rfl)) (fun _ _ _ h => h) (Or.inl ⟨by rfl, ?_⟩) ?_ ?_
                rotate_left
                · intro w'
                  go_simp
                  with_reducible rfl
                rotate_left
                · simp only [Act.put, List.setIfInBounds_toArray, List.set_cons_zero, List.set_cons_succ, i64_w, i32_w]
                  rfl
                refine pure_ (i := 13) (N := some 51) (v := ?_) (a' := ?_) #[true, true, true, true, true, true, true, true, true, true, true, true, true, true, false, false, false, false, false, false, false, false, false, false, false, false] rfl rfl (any_of HT_.out (by kernel_rfl)) (fun _ _ _ h => h) (Or.inl ⟨by rfl, ?_⟩) ?_ ?_
                rotate_left
                · intro w'
                  go_simp
                  with_reducible rfl
                rotate_left
                · simp only [Act.put, List.setIfInBounds_toArray, List.set_cons_zero, List.set_cons_succ, i64_w, i32_w]
                  rfl
                refine pure_ (i := 14) (N := some 52) (v := ?_) (a' := ?_) #[true, true, true, true, true, true, true, true, true, true, true, true, true, true, true, false, false, false, false, false, false, false, false, false, false, false] rfl rfl (any_of HT_.out (by kernel_rfl)) (fun _ _ _ h => h) (Or.inl ⟨by rfl, ?_⟩) ?_ ?_
                rotate_left
                · intro w'
                  go_simp
                  with_reducible rfl
                rotate_left
                · simp only [Act.put, List.setIfInBounds_toArray, List.set_cons_zero, List.set_cons_succ, i64_w, i32_w]
                  rfl
                refine pure_ (i := 15) (N := some 53) (v := ?_) (a' := ?_) #[true, true, true, true, true, true, true, true, true, true, true, true, true, true, true, true, false, false, false, false, false, false, false, false, false, false] rfl rfl (any_of HT_.out (by kernel_rfl)) (fun _ _ _ h => h) (Or.inl ⟨by rfl, ?_⟩) ?_ ?_
                rotate_left
                · intro w'
                  go_simp
                  with_reducible rfl
                rotate_left
                · simp only [Act.put, List.setIfInBounds_toArray, List.set_cons_zero, List.set_cons_succ, i64_w, i32_w]
                  rfl
                refine pure_ (i := 16) (N := some 54) (v := ?_) (a' := ?_) #[true, true, true, true, true, true, true, true, true, true, true, true, true, true, true, true, true, false, false, false, false, false, false, false, false, false] rfl rfl (any_of HT_.out (by kernel_rfl)) (fun _ _ _ h => h) (Or.inl ⟨by rfl, ?_⟩) ?_ ?_
                rotate_left
                · intro w'
                  go_simp
                  with_reducible rfl
                rotate_left
                · simp only [Act.put, List.setIfInBounds_toArray, List.set_cons_zero, List.set_cons_succ, i64_w, i32_w]
                  rfl
                refine take_ (i := 17) (N := some 55) (v := ?_) (a' := ?_) #[true, true, true, true, true, true, true, true, true, true, true, true, true, true, true, true, true, true, false, false, false, false, false, false, false, false] rfl rfl (take_ofW HT_.out HW_.out (by kernel_rfl)) (fun _ _ _ h => h) (Or.inl ⟨by rfl, ?_⟩) hHeld ?_ ?_
                rotate_left
                · rintro w' ⟨s0, s1, s2, s3, s4, s5, s6, s7⟩
                  go_simp
                  with_reducible rfl
                rotate_left
                · simp only [Act.put, List.setIfInBounds_toArray, List.set_cons_zero, List.set_cons_succ, i64_w, i32_w]
                  rfl
                refine take_ (i := 18) (N := some 56) (v := ?_) (a' := ?_) #[true, true, true, true, true, true, true, true, true, true, true, true, true, true, true, true, true, true, true, false, false, false, false, false, false, false] rfl rfl (take_ofW HT_.out HW_.out (by kernel_rfl)) (fun _ _ _ h => h) (Or.inl ⟨by rfl, ?_⟩) hHeld ?_ ?_
                rotate_left
                · rintro w' ⟨s0, s1, s2, s3, s4, s5, s6, s7⟩
                  go_simp
                  with_reducible rfl
                rotate_left
                · simp only [Act.put, List.setIfInBounds_toArray, List.set_cons_zero, List.set_cons_succ, i64_w, i32_w]
                  rfl
                refine take_ (i := 20) (N := some 58) (v := ?_) (a' := ?_) #[true, true, true, true, true, true, true, true, true, true, true, true, true, true, true, true, true, true, true, false, true, false, false, false, false, false] rfl rfl (take_ofW HT_.out HW_.out (by kernel_rfl)) (fun _ _ _ h => h) (Or.inl ⟨by rfl, ?_⟩) hHeld ?_ ?_
                rotate_left
                · rintro w' ⟨s0, s1, s2, s3, s4, s5, s6, s7⟩
                  go_simp
                  with_reducible rfl
                rotate_left
                · simp only [Act.put, List.setIfInBounds_toArray, List.set_cons_zero, List.set_cons_succ, i64_w, i32_w]
                  rfl
                refine take_ (i := 21) (N := some 59) (v := ?_) (a' := ?_) #[true, true, true, true, true, true, true, true, true, true, true, true, true, true, true, true, true, true, true, false, true, true, false, false, false, false] rfl rfl (take_ofW HT_.out HW_.out (by kernel_rfl)) (fun _ _ _ h => h) (Or.inl ⟨by rfl, ?_⟩) hHeld ?_ ?_
                rotate_left
                · rintro w' ⟨s0, s1, s2, s3, s4, s5, s6, s7⟩
                  go_simp
                  with_reducible rfl
                rotate_left
                · simp only [Act.put, List.setIfInBounds_toArray, List.set_cons_zero, List.set_cons_succ, i64_w, i32_w]
                  rfl
                refine one_ (i := 19) (N := some 57) #[true, true, true, true, true, true, true, true, true, true, true, true, true, true, true, true, true, true, true, true, true, true, false, false, false, false] rfl rfl (one_of HT_.out (by kernel_rfl)) (by decide) (fun K hK => ?_)
                refine goes_ Try.func25 (by kernel_rfl) rfl #[.agg #[.slice A0_0 l0_0.length c0_0, .bool a0_1], .agg #[.slice A2_0 l2_0.length c2_0, .bool a2_1]] (by rfl) rfl rfl (by (try simp only [List.map_toArray, List.map_cons, List.map_nil]); first | done | rfl | (simp only [List.length_drop, List.length_take]; rfl)) ?_
                with_reducible refine (stuff_Same.calls _ _ l0_0 a0_1 _ _ l2_0 a2_1 t323 _ ?side1 ?side2 ?side3 ?side4 A29.out).mono ?_
                (case side1 => repeat (first | exact (Kd.C_below HR0_0.out (by repeat (first | (with_reducible first | exact HB.out | apply pA | apply pN | apply pD | refine pS ?_ GE298.out | refine pS ?_ GE299.out | refine pS ?_ GE311.out | refine pS ?_ GE320.out) | exact HB.out))) | (with_reducible refine Kd.C_alloc ?_ _) | (with_reducible refine Kd.C_drewN ?_ _) | (with_reducible refine Kd.C_drew ?_)))
                (case side2 => exact HC0_0.out)
                (case side3 => repeat (first | exact (Kd.C_below HR2_0.out (by repeat (first | (with_reducible first | exact HB.out | apply pA | apply pN | apply pD | refine pS ?_ GE298.out | refine pS ?_ GE299.out | refine pS ?_ GE311.out | refine pS ?_ GE320.out) | exact HB.out))) | (with_reducible refine Kd.C_alloc ?_ _) | (with_reducible refine Kd.C_drewN ?_ _) | (with_reducible refine Kd.C_drew ?_)))
                (case side4 => exact HC2_0.out)
                rintro e w52 ⟨rfl, hb⟩
                refine ⟨_, rfl, ?_⟩
                have n0_ := Aside0.mk (Kd.R_below (by (with_reducible repeat (first | apply Kd.R_alloc | apply Kd.R_drewN | apply Kd.R_drew)); exact HO305.out) hb)
                have n1_ := Aside0.mk (Kd.R_below (by (with_reducible repeat (first | apply Kd.R_alloc | apply Kd.R_drewN | apply Kd.R_drew)); exact HO309.out) hb)
                have n2_ := Aside0.mk (Kd.R_below (by (with_reducible repeat (first | apply Kd.R_alloc | apply Kd.R_drewN | apply Kd.R_drew)); exact HO314.out) hb)
                have n3_ := Aside0.mk (Kd.R_below (by (with_reducible repeat (first | apply Kd.R_alloc | apply Kd.R_drewN | apply Kd.R_drew)); exact HO318.out) hb)
                have n4_ := Aside0.mk (blk_below (g := gb298) (o := .cells #[.slice A0_0 l0_0.length c0_0, .bool a0_1] 37 (0, 0)) (by (with_reducible repeat (first | refine qN ?_ _ | refine qD ?_ | refine qA ?_ _)); exact BK298.out) hb)
                have n5_ := Aside0.mk (blk_below (g := gb299) (o := .cells #[.slice A2_0 l2_0.length c2_0, .bool a2_1] 37 (0, 0)) (by (with_reducible repeat (first | refine qN ?_ _ | refine qD ?_ | refine qA ?_ _)); exact BK299.out) hb)
                have n6_ := Aside0.mk (blk_below (g := gb311) (o := .cells #[.slice Ao35 t303.length co35, .bool t306] 37 (0, 0)) (by (with_reducible repeat (first | refine qN ?_ _ | refine qD ?_ | refine qA ?_ _)); exact BK311.out) hb)
                have n7_ := Aside0.mk (blk_below (g := gb320) (o := .cells #[.slice Ao42 t312.length co42, .bool t315] 37 (0, 0)) (by (with_reducible repeat (first | refine qN ?_ _ | refine qD ?_ | refine qA ?_ _)); exact BK320.out) hb)
                have n8_ := Aside0.mk (below_step (by repeat (first | (with_reducible first | exact HB.out | apply pA | apply pN | apply pD | refine pS ?_ GE298.out | refine pS ?_ GE299.out | refine pS ?_ GE311.out | refine pS ?_ GE320.out) | exact HB.out)) hb)
                clear HO305
                clear HO309
                clear HO314
                clear HO318
                clear BK298
                clear BK299
                clear BK311
                clear BK320
                clear HB
                have HO305 := n0_
                have HO309 := n1_
                have HO314 := n2_
                have HO318 := n3_
                have BK298 := n4_
                have BK299 := n5_
                have BK311 := n6_
                have BK320 := n7_
                have HB := n8_
                clear n0_ n1_ n2_ n3_ n4_ n5_ n6_ n7_ n8_
                (try clear hb)
                (try clear hb2)
                (try clear hk)
                (try clear hi)
                refine hK.out _ _ ⟨(blk_cell BK311.out 0).trans rfl, (blk_cell BK311.out 1).trans rfl, (blk_cell BK320.out 0).trans rfl, (blk_cell BK320.out 1).trans rfl, (blk_cell BK298.out 0).trans rfl, (blk_cell BK298.out 1).trans rfl, (blk_cell BK299.out 0).trans rfl, (blk_cell BK299.out 1).trans rfl⟩ (fun hHeld => ?_)
                clear hK K
                refine norm_ (a' := ?_) ?_ ?_
                rotate_left
                · show Act.put _ (some 57) _ = _
                  simp only [Act.put, List.setIfInBounds_toArray, List.set_cons_zero, List.set_cons_succ, i64_w, i32_w]
                  rfl
                refine one_ (i := 22) (N := some 60) #[true, true, true, true, true, true, true, true, true, true, true, true, true, true, true, true, true, true, true, true, true, true, true, false, false, false] rfl rfl (one_of HT_.out (by kernel_rfl)) (by decide) (fun K hK => ?_)
                refine goes_ Try.func24 (by kernel_rfl) rfl #[.agg #[.slice A0_0 l0_0.length c0_0, .bool a0_1], .agg #[.slice A2_0 l2_0.length c2_0, .bool a2_1]] (by rfl) rfl rfl (by (try simp only [List.map_toArray, List.map_cons, List.map_nil]); first | done | rfl | (simp only [List.length_drop, List.length_take]; rfl)) ?_
                with_reducible refine (portreeveref07_Same.calls kj4 _ _ l0_0 a0_1 _ _ l2_0 a2_1 t324 _ ?side1 ?side2 ?side3 ?side4 A30.out).mono ?_
                (case side1 => repeat (first | exact (Kd.C_below HR0_0.out HB.out) | (with_reducible refine Kd.C_alloc ?_ _) | (with_reducible refine Kd.C_drewN ?_ _) | (with_reducible refine Kd.C_drew ?_)))
                (case side2 => exact HC0_0.out)
                (case side3 => repeat (first | exact (Kd.C_below HR2_0.out HB.out) | (with_reducible refine Kd.C_alloc ?_ _) | (with_reducible refine Kd.C_drewN ?_ _) | (with_reducible refine Kd.C_drew ?_)))
                (case side4 => exact HC2_0.out)
                rintro e w53 ⟨rfl, hb⟩
                refine ⟨_, rfl, ?_⟩
                have n0_ := Aside0.mk (Kd.R_below (by (with_reducible repeat (first | apply Kd.R_alloc | apply Kd.R_drewN | apply Kd.R_drew)); exact HO305.out) hb)
                have n1_ := Aside0.mk (Kd.R_below (by (with_reducible repeat (first | apply Kd.R_alloc | apply Kd.R_drewN | apply Kd.R_drew)); exact HO309.out) hb)
                have n2_ := Aside0.mk (Kd.R_below (by (with_reducible repeat (first | apply Kd.R_alloc | apply Kd.R_drewN | apply Kd.R_drew)); exact HO314.out) hb)
                have n3_ := Aside0.mk (Kd.R_below (by (with_reducible repeat (first | apply Kd.R_alloc | apply Kd.R_drewN | apply Kd.R_drew)); exact HO318.out) hb)
                have n4_ := Aside0.mk (blk_below (g := gb298) (o := .cells #[.slice A0_0 l0_0.length c0_0, .bool a0_1] 37 (0, 0)) (by (with_reducible repeat (first | refine qN ?_ _ | refine qD ?_ | refine qA ?_ _)); exact BK298.out) hb)
                have n5_ := Aside0.mk (blk_below (g := gb299) (o := .cells #[.slice A2_0 l2_0.length c2_0, .bool a2_1] 37 (0, 0)) (by (with_reducible repeat (first | refine qN ?_ _ | refine qD ?_ | refine qA ?_ _)); exact BK299.out) hb)
                have n6_ := Aside0.mk (blk_below (g := gb311) (o := .cells #[.slice Ao35 t303.length co35, .bool t306] 37 (0, 0)) (by (with_reducible repeat (first | refine qN ?_ _ | refine qD ?_ | refine qA ?_ _)); exact BK311.out) hb)
                have n7_ := Aside0.mk (blk_below (g := gb320) (o := .cells #[.slice Ao42 t312.length co42, .bool t315] 37 (0, 0)) (by (with_reducible repeat (first | refine qN ?_ _ | refine qD ?_ | refine qA ?_ _)); exact BK320.out) hb)
                have n8_ := Aside0.mk (below_step (by repeat (first | (with_reducible first | exact HB.out | apply pA | apply pN | apply pD | refine pS ?_ GE298.out | refine pS ?_ GE299.out | refine pS ?_ GE311.out | refine pS ?_ GE320.out) | exact HB.out)) hb)
                clear HO305
                clear HO309
                clear HO314
                clear HO318
                clear BK298
                clear BK299
                clear BK311
                clear BK320
                clear HB
                have HO305 := n0_
                have HO309 := n1_
                have HO314 := n2_
                have HO318 := n3_
                have BK298 := n4_
                have BK299 := n5_
                have BK311 := n6_
                have BK320 := n7_
                have HB := n8_
                clear n0_ n1_ n2_ n3_ n4_ n5_ n6_ n7_ n8_
                (try clear hb)
                (try clear hb2)
                (try clear hk)
                (try clear hi)
                refine hK.out _ _ ⟨(blk_cell BK311.out 0).trans rfl, (blk_cell BK311.out 1).trans rfl, (blk_cell BK320.out 0).trans rfl, (blk_cell BK320.out 1).trans rfl, (blk_cell BK298.out 0).trans rfl, (blk_cell BK298.out 1).trans rfl, (blk_cell BK299.out 0).trans rfl, (blk_cell BK299.out 1).trans rfl⟩ (fun hHeld => ?_)
                clear hK K
                refine norm_ (a' := ?_) ?_ ?_
                rotate_left
                · show Act.put _ (some 60) _ = _
                  simp only [Act.put, List.setIfInBounds_toArray, List.set_cons_zero, List.set_cons_succ, i64_w, i32_w]
                  rfl
                refine pure_ (i := 23) (N := some 61) (v := ?_) (a' := ?_) #[true, true, true, true, true, true, true, true, true, true, true, true, true, true, true, true, true, true, true, true, true, true, true, true, false, false] rfl rfl (any_of HT_.out (by kernel_rfl)) (fun _ _ _ h => h) (Or.inl ⟨by rfl, ?_⟩) ?_ ?_
                rotate_left
                · intro w'
                  go_simp
                  with_reducible rfl
                rotate_left
                · simp only [Act.put, List.setIfInBounds_toArray, List.set_cons_zero, List.set_cons_succ, i64_w, i32_w]
                  rfl
                refine pure_ (i := 24) (N := some 62) (v := ?_) (a' := ?_) #[true, true, true, true, true, true, true, true, true, true, true, true, true, true, true, true, true, true, true, true, true, true, true, true, true, false] rfl rfl (any_of HT_.out (by kernel_rfl)) (fun _ _ _ h => h) (Or.inl ⟨by rfl, ?_⟩) ?_ ?_
                rotate_left
                · intro w'
                  go_simp
                  with_reducible rfl
                rotate_left
                · simp only [Act.put, List.setIfInBounds_toArray, List.set_cons_zero, List.set_cons_succ, i64_w, i32_w]
                  rfl
                refine pure_ (i := 25) (N := some 6) (v := ?_) (a' := ?_) #[true, true, true, true, true, true, true, true, true, true, true, true, true, true, true, true, true, true, true, true, true, true, true, true, true, true] rfl rfl (any_of HT_.out (by kernel_rfl)) (fun _ _ _ h => h) (Or.inl ⟨by rfl, ?_⟩) ?_ ?_
                rotate_left
                · intro w'
                  go_simp
                  with_reducible rfl
                rotate_left
                · simp only [Act.put, List.setIfInBounds_toArray, List.set_cons_zero, List.set_cons_succ, i64_w, i32_w]
                  rfl
                refine done_ (done_of HT_.out (by kernel_rfl)) ?_
                try go_wp2
                go_ret
                exact ⟨by first | rfl | (simp [errW_none, errW_some] <;> rfl) | (simp [*, errW_none, errW_some] <;> rfl), by repeat (first | (with_reducible first | exact HB.out | apply pA | apply pN | apply pD | refine pS ?_ GE298.out | refine pS ?_ GE299.out | refine pS ?_ GE311.out | refine pS ?_ GE320.out) | exact HB.out)⟩
              · rw [if_neg c28] at H
                have c28b0 : (t310 == t319) = false := by simpa using c28
                (try (have c28b1 : decide (t310 = t319) = false := by simpa using c28))
                (try (have c28b2 : (t310 == t319) = false := by simpa using c28))
                (try (have c28b3 : ¬ (t310 = t319) := by simpa using c28))
                clear c28
                exact absurd ((Option.some.inj H).trans hlaw_.out) (by decide)
            · replace c27 := Bool.eq_false_iff.mpr c27
              subst c27
              have H1 : (some false) = some r := by rw [if_neg (show ¬ (false = true) by decide)] at H; exact H
              clear H
              have H := H1
              clear H1
              exact absurd ((Option.some.inj H).trans hlaw_.out) (by decide)
          · replace c25 := Bool.eq_false_iff.mpr c25
            subst c25
            have H1 : (some false) = some r := by rw [if_neg (show ¬ (false = true) by decide)] at H; exact H
            clear H
            have H := H1
            clear H1
            exact absurd ((Option.some.inj H).trans hlaw_.out) (by decide)
        · replace c23 := Bool.eq_false_iff.mpr c23
          subst c23
          have H1 : (some false) = some r := by rw [if_neg (show ¬ (false = true) by decide)] at H; exact H
          clear H
          have H := H1
          clear H1
          exact absurd ((Option.some.inj H).trans hlaw_.out) (by decide)

end Go.Proofs.Ytdmhamnnadegnaa.Q

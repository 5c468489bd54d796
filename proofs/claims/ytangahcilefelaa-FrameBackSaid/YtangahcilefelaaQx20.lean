-- written by this session's own program (wip/tools/myprint.py), over the kit's print
import Derived.Test.YtangahcilefelaaQx0
import Derived.Test.YtangahcilefelaaQx1
import Derived.Test.YtangahcilefelaaQx6
import Derived.Test.YtangahcilefelaaQx9
import Derived.Test.YtangahcilefelaaQx11
import Derived.Test.YtangahcilefelaaQx12
import Derived.Test.YtangahcilefelaaQx19
namespace Go.Proofs.Ytangahcilefelaa.Q
open Go.RowKit Go.Proofs.YtangahcilefelaaW.PrintWords Go.Proofs.YtangahcilefelaaW.PrintLast Go.Proofs.YtangahcilefelaaW.PrintMore
open Go.Proofs.YtangahcilefelaaV
attribute [local go_sem] max2_int min2_int max_two min_two max_three min_three max_four min_four   -- for this text's walks alone
set_option linter.unusedVariables false
set_option linter.unusedSimpArgs false

/-! ### portreevelaw08_FrameBack: function 6 -/
mutual
def portreevelaw08_FrameBack.j0 : Nat → Int → Bool → List Int → Bool → Bool → Int → List Int → Option (Bool)
 | 0, _, _, _, _, _, _, _ => none
 | k + 1, x4, x5, x6, x7, x32, x431000, x431001 => if x32 = true then (some x7) else ((frame_Send.f k x431000 x431001 x4 x5).bind fun bt432 => (if bt432.2 = 0 then ((frame_Bytes.f k x431000 x431001 x5).bind fun bt437 => ((frame_Read.f k bt437.1).bind fun bt441 => (if bt437.2 = 0 then (if bt441.2.2 = 0 then ((portreeveref08_Same.f k bt441.1 bt441.2.1 x431000 x431001).bind fun t447 => (portreevelaw08_FrameBack.j1 k x6 x7 bt432.1 (!t447) x431000 x431001)) else (portreevelaw08_FrameBack.j1 k x6 x7 bt432.1 true x431000 x431001)) else (portreevelaw08_FrameBack.j1 k x6 x7 bt432.1 true x431000 x431001)))) else (if x7 = true then (if bt432.2 = 1 then ((frame_Proto.f x431000).bind fun t436 => (if t436 = true then (some false) else (some ((bt432.1.length : Int) == 0)))) else (some false)) else (some false))))
def portreevelaw08_FrameBack.j1 : Nat → List Int → Bool → List Int → Bool → Int → List Int → Option (Bool)
 | 0, _, _, _, _, _, _ => none
 | k + 1, x6, x7, x8, x81, x431000, x431001 => if x81 = true then (some false) else ((some (([] : List Int) : List Int)).bind fun y448 => (if y448.length + x6.length < 140737488355328 then ((some (y448 ++ x6 : List Int)).bind fun y451 => (if y451.length + x8.length < 140737488355328 then ((portreevelaw08_taken.f k (y451 ++ x8)).bind fun t457 => (if x7 = true then (if (t457.length : Int) ≥ 1 then (if 0 ≤ (wrap64 ((t457.length : Int) - 1)) then (if (wrap64 ((t457.length : Int) - 1)) < (t457.length : Int) then ((portreeveref08_Same.f k ((rd_T25 t457 (wrap64 ((t457.length : Int) - 1))).f0) ((rd_T25 t457 (wrap64 ((t457.length : Int) - 1))).f1) x431000 x431001).bind fun t461 => (some t461)) else (none)) else (none)) else (some false)) else (some false))) else (none))) else (none)))
end
def portreevelaw08_FrameBack.f (k : Nat) (a0_0 : Int) (l0_1 : List Int) (a0_2 : Int) (a0_3 : Bool) (l0_4 : List Int) : Option (Bool) := (portreevelaw08_shown.f k).bind fun t431 => (if (l0_1.length : Int) > 700 then (portreevelaw08_FrameBack.j0 k a0_2 a0_3 l0_4 t431 true a0_0 l0_1) else (portreevelaw08_FrameBack.j0 k a0_2 a0_3 l0_4 t431 (decide ((l0_4.length : Int) > 300)) a0_0 l0_1))
theorem portreevelaw08_FrameBack.mono_l : ∀ k, (∀ y0 y1 y2 y3 y4 y5 y6, LeO (portreevelaw08_FrameBack.j0 k y0 y1 y2 y3 y4 y5 y6) (portreevelaw08_FrameBack.j0 (k + 1) y0 y1 y2 y3 y4 y5 y6)) ∧ (∀ y0 y1 y2 y3 y4 y5, LeO (portreevelaw08_FrameBack.j1 k y0 y1 y2 y3 y4 y5) (portreevelaw08_FrameBack.j1 (k + 1) y0 y1 y2 y3 y4 y5))
 | 0 => ⟨fun _ _ _ _ _ _ _ r h => by simp [portreevelaw08_FrameBack.j0] at h, fun _ _ _ _ _ _ r h => by simp [portreevelaw08_FrameBack.j1] at h⟩
 | k + 1 => by
  obtain ⟨ih0, ih1⟩ := portreevelaw08_FrameBack.mono_l k
  refine ⟨?_, ?_⟩
  ·intro y0 y1 y2 y3 y4 y5 y6
   unfold portreevelaw08_FrameBack.j0
   repeat' first
   | (with_reducible exact ih0 _ _ _ _ _ _ _)
   | (with_reducible exact ih1 _ _ _ _ _ _)
   | (with_reducible exact frame_Bytes.mono _ _ _ _)
   | (with_reducible exact frame_Read.mono _ _)
   | (with_reducible exact frame_Send.mono _ _ _ _ _)
   | (with_reducible exact portreevelaw08_shown.mono _)
   | (with_reducible exact portreevelaw08_taken.mono _ _)
   | (with_reducible exact portreeveref08_Same.mono _ _ _ _ _)
   | (with_reducible exact LeO.refl _)
   | (with_reducible exact LeO.none _)
   | (with_reducible refine LeO.ite ?_ ?_)
   | (with_reducible refine LeO.bind ?_ (fun _ => ?_))
   | exact ih0 _ _ _ _ _ _ _
   | exact ih1 _ _ _ _ _ _
   | exact frame_Bytes.mono _ _ _ _
   | exact frame_Read.mono _ _
   | exact frame_Send.mono _ _ _ _ _
   | exact portreevelaw08_shown.mono _
   | exact portreevelaw08_taken.mono _ _
   | exact portreeveref08_Same.mono _ _ _ _ _
   | exact LeO.none _
   | refine LeO.ite ?_ ?_
   | refine LeO.bind ?_ (fun _ => ?_)
  ·intro y0 y1 y2 y3 y4 y5
   unfold portreevelaw08_FrameBack.j1
   repeat' first
   | (with_reducible exact ih0 _ _ _ _ _ _ _)
   | (with_reducible exact ih1 _ _ _ _ _ _)
   | (with_reducible exact frame_Bytes.mono _ _ _ _)
   | (with_reducible exact frame_Read.mono _ _)
   | (with_reducible exact frame_Send.mono _ _ _ _ _)
   | (with_reducible exact portreevelaw08_shown.mono _)
   | (with_reducible exact portreevelaw08_taken.mono _ _)
   | (with_reducible exact portreeveref08_Same.mono _ _ _ _ _)
   | (with_reducible exact LeO.refl _)
   | (with_reducible exact LeO.none _)
   | (with_reducible refine LeO.ite ?_ ?_)
   | (with_reducible refine LeO.bind ?_ (fun _ => ?_))
   | exact ih0 _ _ _ _ _ _ _
   | exact ih1 _ _ _ _ _ _
   | exact frame_Bytes.mono _ _ _ _
   | exact frame_Read.mono _ _
   | exact frame_Send.mono _ _ _ _ _
   | exact portreevelaw08_shown.mono _
   | exact portreevelaw08_taken.mono _ _
   | exact portreeveref08_Same.mono _ _ _ _ _
   | exact LeO.none _
   | refine LeO.ite ?_ ?_
   | refine LeO.bind ?_ (fun _ => ?_)
theorem portreevelaw08_FrameBack.mono : ∀ a0 a1 a2 a3 a4 k, LeO (portreevelaw08_FrameBack.f k a0 a1 a2 a3 a4) (portreevelaw08_FrameBack.f (k + 1) a0 a1 a2 a3 a4) := by
 intro a0 a1 a2 a3 a4 k
 obtain ⟨ih0, ih1⟩ := portreevelaw08_FrameBack.mono_l k
 unfold portreevelaw08_FrameBack.f
 repeat' first
   | (with_reducible exact ih0 _ _ _ _ _ _ _)
   | (with_reducible exact ih1 _ _ _ _ _ _)
   | (with_reducible exact frame_Bytes.mono _ _ _ _)
   | (with_reducible exact frame_Read.mono _ _)
   | (with_reducible exact frame_Send.mono _ _ _ _ _)
   | (with_reducible exact portreevelaw08_shown.mono _)
   | (with_reducible exact portreevelaw08_taken.mono _ _)
   | (with_reducible exact portreeveref08_Same.mono _ _ _ _ _)
   | (with_reducible exact LeO.refl _)
   | (with_reducible exact LeO.none _)
   | (with_reducible refine LeO.ite ?_ ?_)
   | (with_reducible refine LeO.bind ?_ (fun _ => ?_))
   | exact ih0 _ _ _ _ _ _ _
   | exact ih1 _ _ _ _ _ _
   | exact frame_Bytes.mono _ _ _ _
   | exact frame_Read.mono _ _
   | exact frame_Send.mono _ _ _ _ _
   | exact portreevelaw08_shown.mono _
   | exact portreevelaw08_taken.mono _ _
   | exact portreeveref08_Same.mono _ _ _ _ _
   | exact LeO.none _
   | refine LeO.ite ?_ ?_
   | refine LeO.bind ?_ (fun _ => ?_)
def portreevelaw08_FrameBack.T16 : Bool × List (List Nat × List Nat) := (true, [([], []), ([0], [0]), ([1], [1]), ([2, 1], [1, 2]), ([3, 1], [1, 3]), ([1, 4], [1, 4]), ([5, 1], [5]), ([6], [6]), ([6], [6]), ([8, 6], [6, 8]), ([9, 6], [6, 9]), ([7, 10, 6], [6, 7, 10]), ([11, 6], [6, 11]), ([6], [6]), ([12, 13, 6, 6], [6, 12, 13]), ([6, 14], [6, 14]), ([15, 14, 0, 1, 2, 3, 4, 5, 6, 7, 8, 9, 10, 11, 12, 13, 14, 15], [15])])
def portreevelaw08_FrameBack.B16 : List Nat := [0, 1, 3, 7, 15, 31, 63, 127, 127, 383, 895, 2047, 4095, 127, 16383, 32767, 65535]
theorem portreevelaw08_FrameBack.tab16 : rtab .any (opsOf Try.f6 16) = portreevelaw08_FrameBack.T16 := by kernel_rfl
theorem portreevelaw08_FrameBack.bits16 : waitsOk portreevelaw08_FrameBack.T16.2 portreevelaw08_FrameBack.B16 = true := by kernel_rfl
set_option maxHeartbeats 8000000 in
set_option maxRecDepth 100000 in
theorem portreevelaw08_FrameBack.calls (k : Nat) (a0_0 : Int) (A0_1 : Option Addr) (c0_1 : Nat) (l0_1 : List Int) (a0_2 : Int) (a0_3 : Bool) (A0_4 : Option Addr) (c0_4 : Nat) (l0_4 : List Int) (r : Bool) (w : World) (hlaw_ : Aside0 (r = true)) (hr0_1 : Kd.C (Kd.int .u8) w A0_1 l0_1.length l0_1) (hc0_1 : l0_1.length ≤ c0_1) (hr0_4 : Kd.C (Kd.int .u8) w A0_4 l0_4.length l0_4) (hc0_4 : l0_4.length ≤ c0_4) (h : portreevelaw08_FrameBack.f k a0_0 l0_1 a0_2 a0_3 l0_4 = some r) :
  Calls Try.prog 6 #[.agg #[.int .u16 a0_0, .slice A0_1 l0_1.length c0_1, .int .u32 a0_2, .bool a0_3, .slice A0_4 l0_4.length c0_4]] w fun e w' => e = .returned (.bool r) ∧ Below w.heap.size w w' := by
 have hu46 := Try.underlying46
 have hu25 := Try.underlying25
 have HR0_1 := Aside0.mk hr0_1
 have HC0_1 := Aside0.mk hc0_1
 clear hr0_1 hc0_1
 have HR0_4 := Aside0.mk hr0_4
 have HC0_4 := Aside0.mk hc0_4
 clear hr0_4 hc0_4
 have HB := Aside0.mk (Below.refl w.heap.size w)
 have H : ((portreevelaw08_shown.f k).bind fun t431 => (if (l0_1.length : Int) > 700 then (portreevelaw08_FrameBack.j0 k a0_2 a0_3 l0_4 t431 true a0_0 l0_1) else (portreevelaw08_FrameBack.j0 k a0_2 a0_3 l0_4 t431 (decide ((l0_4.length : Int) > 300)) a0_0 l0_1))) = some r := h
 clear h
 replace H := Option.bind_eq_some_iff.mp H
 obtain ⟨t431, A20, H⟩ := H
 replace H : (if (l0_1.length : Int) > 700 then (portreevelaw08_FrameBack.j0 k a0_2 a0_3 l0_4 t431 true a0_0 l0_1) else (portreevelaw08_FrameBack.j0 k a0_2 a0_3 l0_4 t431 (decide ((l0_4.length : Int) > 300)) a0_0 l0_1)) = some r := H
 have A2 := Aside0.mk A20
 clear A20
 have HC3 := Aside0.mk H
 clear H
 go_enter Try.func6, Try.ntmps6
 go_upto_region 6 with (first | ((with_reducible refine gate_dst (N := 1) rfl ?_); (try (refine gate_guard (by rfl) ?_; dsimp only)); refine box_event ?hg (N := 1) ?hd (cs := #[.int .u16 a0_0, .slice A0_1 l0_1.length c0_1, .int .u32 a0_2, .bool a0_3, .slice A0_4 l0_4.length c0_4]) (t := 46) ?hr ?_; (case hd => rfl); (case hg => rfl); (case hr => first | (go_simp; done) | (go_simp; rfl)); intro gb429 hg w4 hbox hb; have n0_ := Aside0.mk (below_step (zH HB.out) hb); have n1_ := Aside0.mk (hbox); have n2_ := Aside0.mk ((by rw [hg]; exact (below_size (zH HB.out)) : w.heap.size ≤ gb429)); have n3_ := Aside0.mk ((by rw [hg]; exact (below_size (zH HB.out)) : w.heap.size ≤ gb429)); clear HB; have HB := n0_; have BK429 := n1_; have GW429 := n2_; have GE429 := n3_; clear n0_ n1_ n2_ n3_; clear hb hbox hg; obtain ⟨hcz5_0, hcz5_1, hcz5_2, hcz5_3, hcz5_4, hfz5_0, hfz5_1, hfz5_2, hfz5_3, hfz5_4⟩ := bk5 BK429.out) | ((with_reducible refine gate_dst (N := 3) rfl ?_); (try (refine gate_guard (by rfl) ?_; dsimp only)); refine box_event ?hg (N := 3) ?hd (cs := #[.int .u16 0, .slice none 0 0]) (t := 25) ?hr ?_; (case hd => rfl); (case hg => rfl); (case hr => first | (go_simp; done) | (go_simp; rfl)); intro gb430 hg w6 hbox hb; have n0_ := Aside0.mk (blk_below (g := gb429) (o := .cells #[.int .u16 a0_0, .slice A0_1 l0_1.length c0_1, .int .u32 a0_2, .bool a0_3, .slice A0_4 l0_4.length c0_4] 46 (0, 0)) (zB BK429.out) hb); have n1_ := Aside0.mk (below_step (by repeat (first | (with_reducible first | exact HB.out | apply pA | apply pN | apply pD | refine pS ?_ GE429.out) | exact HB.out)) hb); have n2_ := Aside0.mk (hbox); have n3_ := Aside0.mk ((by rw [hg]; exact (below_size (by repeat (first | (with_reducible first | exact HB.out | apply pA | apply pN | apply pD | refine pS ?_ GE429.out) | exact HB.out))) : w.heap.size ≤ gb430)); have n4_ := Aside0.mk ((by rw [hg]; exact (below_size (by repeat (first | (with_reducible first | exact HB.out | apply pA | apply pN | apply pD | refine pS ?_ GE429.out) | exact HB.out))) : w.heap.size ≤ gb430)); have n5_ := Aside0.mk ((by rw [hg]; exact Nat.ne_of_lt (blk_lt (g := gb429) (o := .cells #[.int .u16 a0_0, .slice A0_1 l0_1.length c0_1, .int .u32 a0_2, .bool a0_3, .slice A0_4 l0_4.length c0_4] 46 (0, 0)) (zB BK429.out)) : gb429 ≠ gb430)); have n6_ := Aside0.mk ((by rw [hg]; exact Nat.ne_of_gt (blk_lt (g := gb429) (o := .cells #[.int .u16 a0_0, .slice A0_1 l0_1.length c0_1, .int .u32 a0_2, .bool a0_3, .slice A0_4 l0_4.length c0_4] 46 (0, 0)) (zB BK429.out)) : gb430 ≠ gb429)); clear BK429; clear HB; have BK429 := n0_; have HB := n1_; have BK430 := n2_; have GW430 := n3_; have GE430 := n4_; have NB429_430 := n5_; have NB430_429 := n6_; clear n0_ n1_ n2_ n3_ n4_ n5_ n6_; clear hb hbox hg; have hnb7 := NB430_429.out; have hnc7 := NB429_430.out; obtain ⟨hcz8_0, hcz8_1, hfz8_0, hfz8_1⟩ := bk2 BK430.out; obtain ⟨hcz9_0, hcz9_1, hcz9_2, hcz9_3, hcz9_4, hfz9_0, hfz9_1, hfz9_2, hfz9_3, hfz9_4⟩ := bk5 BK429.out) | ((with_reducible refine gate_callee (f := 8) rfl ?_); refine goesL_ (some 23) rfl rfl Try.func8 (by kernel_rfl) rfl #[] rfl (by (try simp only [List.map_toArray, List.map_cons, List.map_nil]); first | done | rfl | (simp only [List.length_drop, List.length_take]; rfl)) ?_; (with_reducible refine (portreevelaw08_shown.calls k  t431 _ A2.out).mono ?_); rintro e w10 ⟨rfl, hb⟩; refine ⟨_, rfl, ?_⟩; have n0_ := Aside0.mk (blk_below (g := gb429) (o := .cells #[.int .u16 a0_0, .slice A0_1 l0_1.length c0_1, .int .u32 a0_2, .bool a0_3, .slice A0_4 l0_4.length c0_4] 46 (0, 0)) (by (with_reducible repeat (first | refine qN ?_ _ | refine qD ?_ | refine qA ?_ _)); refine blk_far ?_ NB429_430.out _; (with_reducible repeat (first | refine qN ?_ _ | refine qD ?_ | refine qA ?_ _)); refine blk_far ?_ NB429_430.out _; (with_reducible repeat (first | refine qN ?_ _ | refine qD ?_ | refine qA ?_ _)); exact BK429.out) hb); have n1_ := Aside0.mk (blk_below (g := gb430) (o := .cells #[.int .u16 a0_0, .slice A0_1 l0_1.length c0_1] 25 (0, 0)) (by (with_reducible repeat (first | refine qN ?_ _ | refine qD ?_ | refine qA ?_ _)); refine blk_put (cs := #[.int .u16 a0_0, .slice none 0 0]) ?_ 1 _ rfl; (with_reducible repeat (first | refine qN ?_ _ | refine qD ?_ | refine qA ?_ _)); refine blk_put (cs := #[.int .u16 0, .slice none 0 0]) ?_ 0 _ rfl; (with_reducible repeat (first | refine qN ?_ _ | refine qD ?_ | refine qA ?_ _)); exact BK430.out) hb); have n2_ := Aside0.mk (below_step (by repeat (first | (with_reducible first | exact HB.out | apply pA | apply pN | apply pD | refine pS ?_ GE429.out | refine pS ?_ GE430.out) | exact HB.out)) hb); clear BK429; clear BK430; clear HB; have BK429 := n0_; have BK430 := n1_; have HB := n2_; clear n0_ n1_ n2_; (try clear hb); (try clear hb2); (try clear hk); (try clear hi)))
 (try simp only [Act.put, sT, s0, s1])
 go_cut [32] (fun v32 wc => ∃ (kq : Nat) (x32_2 : Bool), v32 = .bool x32_2 ∧ Aside0 (portreevelaw08_FrameBack.j0 kq a0_2 a0_3 l0_4 t431 x32_2 a0_0 l0_1 = some r) ∧ Aside0 (kq ≤ k) ∧ Aside0 (wc.heap[gb429]? = some (.cells #[.int .u16 a0_0, (.slice A0_1 l0_1.length c0_1), .int .u32 a0_2, .bool a0_3, (.slice A0_4 l0_4.length c0_4)] 46 (0, 0))) ∧ Aside0 (wc.heap[gb430]? = some (.cells #[.int .u16 a0_0, (.slice A0_1 l0_1.length c0_1)] 25 (0, 0))) ∧ Aside0 (Below w.heap.size w wc))
 case first =>
  have H := HC3.out
  clear HC3
  by_cases c11 : (l0_1.length : Int) > 700
  ·rw [if_pos c11] at H
   have c11b0 : decide (700 < (l0_1.length : Int)) = true := decide_eq_true c11
   have c11b1 : decide (700 < l0_1.length) = true := decide_eq_true (by omega)
   clear c11
   (first | rw [c11b0] | (simp only [i64_w, i32_w]; rw [c11b0]) | skip)
   have H' := Aside0.mk H
   clear H
   have hnb12 := NB430_429.out
   have hnc12 := NB429_430.out
   obtain ⟨hcz13_0, hcz13_1, hfz13_0, hfz13_1⟩ := bk2 BK430.out
   go_wp2
   go_meet
   case rel => exact ⟨_, (true), (by first | rfl | (simp; done) | (simp [*]; done)), H', ⟨by first | omega | exact Nat.le_refl _⟩, ⟨zB BK429.out⟩, ⟨zB BK430.out⟩, ⟨by repeat (first | (with_reducible first | exact HB.out | apply pA | apply pN | apply pD | refine pS ?_ GE429.out | refine pS ?_ GE430.out) | exact HB.out)⟩⟩
  ·rw [if_neg c11] at H
   have c11b0 : decide (700 < (l0_1.length : Int)) = false := decide_eq_false c11
   have c11b1 : decide (700 < l0_1.length) = false := decide_eq_false (by omega)
   clear c11
   (first | rw [c11b0] | (simp only [i64_w, i32_w]; rw [c11b0]) | skip)
   have H' := Aside0.mk H
   clear H
   have hnb14 := NB430_429.out
   have hnc14 := NB429_430.out
   obtain ⟨hcz15_0, hcz15_1, hfz15_0, hfz15_1⟩ := bk2 BK430.out
   go_wp2
   go_meet
   case rel => exact ⟨_, (decide ((l0_4.length : Int) > 300)), (by first | rfl | (simp; done) | (simp [*]; done)), H', ⟨by first | omega | exact Nat.le_refl _⟩, ⟨zB BK429.out⟩, ⟨zB BK430.out⟩, ⟨by repeat (first | (with_reducible first | exact HB.out | apply pA | apply pN | apply pD | refine pS ?_ GE429.out | refine pS ?_ GE430.out) | exact HB.out)⟩⟩
 case rest =>
  clear HC3
  try clear c1
  try clear p2
  try clear c6
  try clear c7
  try clear c8
  try clear c11
  try clear c11b0
  try clear c11b1
  try clear c12
  try clear c14
  try clear hcz13_0
  try clear hcz13_1
  try clear hcz15_0
  try clear hcz15_1
  try clear hcz5_0
  try clear hcz5_1
  try clear hcz5_2
  try clear hcz5_3
  try clear hcz5_4
  try clear hcz8_0
  try clear hcz8_1
  try clear hcz9_0
  try clear hcz9_1
  try clear hcz9_2
  try clear hcz9_3
  try clear hcz9_4
  try clear hfz13_0
  try clear hfz13_1
  try clear hfz15_0
  try clear hfz15_1
  try clear hfz5_0
  try clear hfz5_1
  try clear hfz5_2
  try clear hfz5_3
  try clear hfz5_4
  try clear hfz8_0
  try clear hfz8_1
  try clear hfz9_0
  try clear hfz9_1
  try clear hfz9_2
  try clear hfz9_3
  try clear hfz9_4
  obtain ⟨kq, x32_2, rfl, HA, HJ2, BK429, BK430, HB⟩ := hcut
  cases kq with
  | zero => exact absurd HA.out (by simp [portreevelaw08_FrameBack.j0])
  | succ kj2 =>
   have H := HA.out
   clear HA
   simp only [portreevelaw08_FrameBack.j0] at H
   by_cases c16 : x32_2 = true
   ·subst c16
    have H1 : (some t431) = some r := by rw [if_pos rfl] at H; exact H
    clear H
    have H := H1
    clear H1
    clear hlaw_
    obtain rfl := Option.some.inj H
    go_wp2
    go_ret
    exact ⟨by first | rfl | (simp [errW_none, errW_some] <;> rfl) | (simp [*, errW_none, errW_some] <;> rfl), by repeat (first | (with_reducible first | exact HB.out | apply pA | apply pN | apply pD | refine pS ?_ GE429.out | refine pS ?_ GE430.out) | exact HB.out)⟩
   ·replace c16 := Bool.eq_false_iff.mpr c16
    subst c16
    have H1 : ((frame_Send.f kj2 a0_0 l0_1 a0_2 a0_3).bind fun bt432 => (if bt432.2 = 0 then ((frame_Bytes.f kj2 a0_0 l0_1 a0_3).bind fun bt437 => ((frame_Read.f kj2 bt437.1).bind fun bt441 => (if bt437.2 = 0 then (if bt441.2.2 = 0 then ((portreeveref08_Same.f kj2 bt441.1 bt441.2.1 a0_0 l0_1).bind fun t447 => (portreevelaw08_FrameBack.j1 kj2 l0_4 t431 bt432.1 (!t447) a0_0 l0_1)) else (portreevelaw08_FrameBack.j1 kj2 l0_4 t431 bt432.1 true a0_0 l0_1)) else (portreevelaw08_FrameBack.j1 kj2 l0_4 t431 bt432.1 true a0_0 l0_1)))) else (if t431 = true then (if bt432.2 = 1 then ((frame_Proto.f a0_0).bind fun t436 => (if t436 = true then (some false) else (some ((bt432.1.length : Int) == 0)))) else (some false)) else (some false)))) = some r := by rw [if_neg (show ¬ (false = true) by decide)] at H; exact H
    clear H
    have H := H1
    clear H1
    replace H := Option.bind_eq_some_iff.mp H
    obtain ⟨⟨t432, t435⟩, A170, H⟩ := H
    replace H : (if t435 = 0 then ((frame_Bytes.f kj2 a0_0 l0_1 a0_3).bind fun bt437 => ((frame_Read.f kj2 bt437.1).bind fun bt441 => (if bt437.2 = 0 then (if bt441.2.2 = 0 then ((portreeveref08_Same.f kj2 bt441.1 bt441.2.1 a0_0 l0_1).bind fun t447 => (portreevelaw08_FrameBack.j1 kj2 l0_4 t431 t432 (!t447) a0_0 l0_1)) else (portreevelaw08_FrameBack.j1 kj2 l0_4 t431 t432 true a0_0 l0_1)) else (portreevelaw08_FrameBack.j1 kj2 l0_4 t431 t432 true a0_0 l0_1)))) else (if t431 = true then (if t435 = 1 then ((frame_Proto.f a0_0).bind fun t436 => (if t436 = true then (some false) else (some ((t432.length : Int) == 0)))) else (some false)) else (some false))) = some r := H
    have A17 := Aside0.mk A170
    clear A170
    by_cases c18 : t435 = 0
    ·rw [if_pos c18] at H
     have c18b0 : (t435 == 0) = true := beq_iff_eq.mpr c18
     have c18b1 : (t435 != 0) = false := bne_eq_false_iff_eq.mpr c18
     clear c18
     replace H := Option.bind_eq_some_iff.mp H
     obtain ⟨⟨t437, t440⟩, A190, H⟩ := H
     replace H : ((frame_Read.f kj2 t437).bind fun bt441 => (if t440 = 0 then (if bt441.2.2 = 0 then ((portreeveref08_Same.f kj2 bt441.1 bt441.2.1 a0_0 l0_1).bind fun t447 => (portreevelaw08_FrameBack.j1 kj2 l0_4 t431 t432 (!t447) a0_0 l0_1)) else (portreevelaw08_FrameBack.j1 kj2 l0_4 t431 t432 true a0_0 l0_1)) else (portreevelaw08_FrameBack.j1 kj2 l0_4 t431 t432 true a0_0 l0_1))) = some r := H
     have A19 := Aside0.mk A190
     clear A190
     replace H := Option.bind_eq_some_iff.mp H
     obtain ⟨⟨t441, t442, t445⟩, A200, H⟩ := H
     replace H : (if t440 = 0 then (if t445 = 0 then ((portreeveref08_Same.f kj2 t441 t442 a0_0 l0_1).bind fun t447 => (portreevelaw08_FrameBack.j1 kj2 l0_4 t431 t432 (!t447) a0_0 l0_1)) else (portreevelaw08_FrameBack.j1 kj2 l0_4 t431 t432 true a0_0 l0_1)) else (portreevelaw08_FrameBack.j1 kj2 l0_4 t431 t432 true a0_0 l0_1)) = some r := H
     have A20 := Aside0.mk A200
     clear A200
     have HC21 := Aside0.mk H
     clear H
     have hnb22 := NB430_429.out
     have hnc22 := NB429_430.out
     obtain ⟨hcz23_0, hcz23_1, hfz23_0, hfz23_1⟩ := bk2 BK430.out
     go_upto_region 13 with (first | ((with_reducible refine gate_callee (f := 18) rfl ?_); refine goesL_ (some 38) rfl rfl Try.func18 (by kernel_rfl) rfl #[.agg #[.int .u16 a0_0, .slice A0_1 l0_1.length c0_1], .int .u32 a0_2, .bool a0_3] rfl (by (try simp only [List.map_toArray, List.map_cons, List.map_nil]); first | done | rfl | (simp only [List.length_drop, List.length_take]; rfl)) ?_; (with_reducible refine (frame_Send.calls kj2 a0_0 _ _ l0_1 a0_2 a0_3 t432 t435 _ ?side1 ?side2 A17.out).mono ?_); (case side1 => repeat (first | exact (Kd.C_below HR0_1.out HB.out) | (with_reducible refine Kd.C_alloc ?_ _) | (with_reducible refine Kd.C_drewN ?_ _) | (with_reducible refine Kd.C_drew ?_))); (case side2 => exact HC0_1.out); rintro e w24 ⟨v433, rfl, ho0, hb⟩; refine ⟨_, rfl, ?_⟩; have n0_ := Aside0.mk (Kd.R_lower ho0 (below_size (by repeat (first | (with_reducible first | exact HB.out | apply pA | apply pN | apply pD | refine pS ?_ GE429.out | refine pS ?_ GE430.out) | exact HB.out)))); have n1_ := Aside0.mk (blk_below (g := gb429) (o := .cells #[.int .u16 a0_0, .slice A0_1 l0_1.length c0_1, .int .u32 a0_2, .bool a0_3, .slice A0_4 l0_4.length c0_4] 46 (0, 0)) (zB BK429.out) hb); have n2_ := Aside0.mk (blk_below (g := gb430) (o := .cells #[.int .u16 a0_0, .slice A0_1 l0_1.length c0_1] 25 (0, 0)) (zB BK430.out) hb); have n3_ := Aside0.mk (below_step (by repeat (first | (with_reducible first | exact HB.out | apply pA | apply pN | apply pD | refine pS ?_ GE429.out | refine pS ?_ GE430.out) | exact HB.out)) hb); clear BK429; clear BK430; clear HB; have HO434 := n0_; have BK429 := n1_; have BK430 := n2_; have HB := n3_; clear n0_ n1_ n2_ n3_; (try clear hb); (try clear hb2); (try clear hk); (try clear hi); (try clear ho0); obtain ⟨hcz25_0, hcz25_1, hfz25_0, hfz25_1⟩ := bk2 BK430.out) | ((with_reducible refine gate_callee (f := 9) rfl ?_); refine goesL_ (some 62) rfl rfl Try.func9 (by kernel_rfl) rfl #[.agg #[.int .u16 a0_0, .slice A0_1 l0_1.length c0_1], .bool a0_3] rfl (by (try simp only [List.map_toArray, List.map_cons, List.map_nil]); first | done | rfl | (simp only [List.length_drop, List.length_take]; rfl)) ?_; (with_reducible refine (frame_Bytes.calls kj2 a0_0 _ _ l0_1 a0_3 t437 t440 _ ?side1 ?side2 A19.out).mono ?_); (case side1 => repeat (first | exact (Kd.C_below HR0_1.out HB.out) | (with_reducible refine Kd.C_alloc ?_ _) | (with_reducible refine Kd.C_drewN ?_ _) | (with_reducible refine Kd.C_drew ?_))); (case side2 => exact HC0_1.out); rintro e w26 ⟨v438, rfl, ho0, hb⟩; refine ⟨_, rfl, ?_⟩; have n0_ := Aside0.mk (Kd.R_elder' (zR HO434.out) (Kd.R_base ho0) hb); have n1_ := Aside0.mk (Kd.R_lower (Kd.R_new' ho0 (Kd.R_lt (zR HO434.out))) (below_size (by repeat (first | (with_reducible first | exact HB.out | apply pA | apply pN | apply pD | refine pS ?_ GE429.out | refine pS ?_ GE430.out) | exact HB.out)))); have n2_ := Aside0.mk (blk_below (g := gb429) (o := .cells #[.int .u16 a0_0, .slice A0_1 l0_1.length c0_1, .int .u32 a0_2, .bool a0_3, .slice A0_4 l0_4.length c0_4] 46 (0, 0)) (zB BK429.out) hb); have n3_ := Aside0.mk (blk_below (g := gb430) (o := .cells #[.int .u16 a0_0, .slice A0_1 l0_1.length c0_1] 25 (0, 0)) (zB BK430.out) hb); have n4_ := Aside0.mk (below_step (by repeat (first | (with_reducible first | exact HB.out | apply pA | apply pN | apply pD | refine pS ?_ GE429.out | refine pS ?_ GE430.out) | exact HB.out)) hb); clear HO434; clear BK429; clear BK430; clear HB; have HO434 := n0_; have HO439 := n1_; have BK429 := n2_; have BK430 := n3_; have HB := n4_; clear n0_ n1_ n2_ n3_ n4_; (try clear hb); (try clear hb2); (try clear hk); (try clear hi); (try clear ho0); obtain ⟨Ao27, co27, eo27⟩ := Kd.R_slice HO439.out; subst eo27) | ((with_reducible refine gate_callee (f := 11) rfl ?_); refine goesL_ (some 67) rfl rfl Try.func11 (by kernel_rfl) rfl #[.slice Ao27 t437.length co27] rfl (by (try simp only [List.map_toArray, List.map_cons, List.map_nil]); first | done | rfl | (simp only [List.length_drop, List.length_take]; rfl)) ?_; (with_reducible refine (frame_Read.calls kj2 _ _ t437 t441 t442 t445 _ ?side1 ?side2 A20.out).mono ?_); (case side1 => repeat (first | exact (Kd.R_reads' HO439.out).2.2 | (with_reducible refine Kd.C_alloc ?_ _) | (with_reducible refine Kd.C_drewN ?_ _) | (with_reducible refine Kd.C_drew ?_))); (case side2 => exact (Kd.R_reads' HO439.out).2.1); rintro e w28 ⟨v443, rfl, ho0, hb⟩; refine ⟨_, rfl, ?_⟩; have n0_ := Aside0.mk (Kd.R_below (zR HO434.out) hb); have n1_ := Aside0.mk (Kd.R_below (zR HO439.out) hb); have n2_ := Aside0.mk (Kd.V_lower (Kd.V_mono (ok' := fun k_ => some k_ ≠ (v433 : Value).ownBlock ∧ some k_ ≠ (.slice Ao27 t437.length co27 : Value).ownBlock ∧ k_ ≠ gb429 ∧ k_ ≠ gb430) ho0 (fun k_ hk_ => ⟨(Kd.fresh' (Kd.R_lt (zR HO434.out)) k_ hk_), (Kd.fresh' (Kd.R_lt (zR HO439.out)) k_ hk_), (Kd.freshB (g := gb429) (o := .cells #[.int .u16 a0_0, .slice A0_1 l0_1.length c0_1, .int .u32 a0_2, .bool a0_3, .slice A0_4 l0_4.length c0_4] 46 (0, 0)) (zB BK429.out) k_ hk_), (Kd.freshB (g := gb430) (o := .cells #[.int .u16 a0_0, .slice A0_1 l0_1.length c0_1] 25 (0, 0)) (zB BK430.out) k_ hk_)⟩)) (below_size (by repeat (first | (with_reducible first | exact HB.out | apply pA | apply pN | apply pD | refine pS ?_ GE429.out | refine pS ?_ GE430.out) | exact HB.out)))); have n3_ := Aside0.mk (blk_below (g := gb429) (o := .cells #[.int .u16 a0_0, .slice A0_1 l0_1.length c0_1, .int .u32 a0_2, .bool a0_3, .slice A0_4 l0_4.length c0_4] 46 (0, 0)) (zB BK429.out) hb); have n4_ := Aside0.mk (blk_below (g := gb430) (o := .cells #[.int .u16 a0_0, .slice A0_1 l0_1.length c0_1] 25 (0, 0)) (zB BK430.out) hb); have n5_ := Aside0.mk (below_step (by repeat (first | (with_reducible first | exact HB.out | apply pA | apply pN | apply pD | refine pS ?_ GE429.out | refine pS ?_ GE430.out) | exact HB.out)) hb); clear HO434; clear HO439; clear BK429; clear BK430; clear HB; have HO434 := n0_; have HO439 := n1_; have HO444 := n2_; have BK429 := n3_; have BK430 := n4_; have HB := n5_; clear n0_ n1_ n2_ n3_ n4_ n5_; (try clear hb); (try clear hb2); (try clear hk); (try clear hi); (try clear ho0)) | ((with_reducible refine gate_dst (N := 12) rfl ?_); (try (refine gate_guard (by rfl) ?_; dsimp only)); refine box_event ?hg (N := 12) ?hd (cs := #[.int .u16 0, .slice none 0 0]) (t := 25) ?hr ?_; (case hd => rfl); (case hg => rfl); (case hr => first | (go_simp; done) | (go_simp; rfl)); intro gb446 hg w29 hbox hb; have n0_ := Aside0.mk (Kd.R_below (zR HO434.out) hb); have n1_ := Aside0.mk (Kd.R_below (zR HO439.out) hb); have n2_ := Aside0.mk (Kd.V_below (Kd.V_elderB (zV HO444.out) gb446 (Nat.le_of_eq hg.symm)) hb); have n3_ := Aside0.mk (blk_below (g := gb429) (o := .cells #[.int .u16 a0_0, .slice A0_1 l0_1.length c0_1, .int .u32 a0_2, .bool a0_3, .slice A0_4 l0_4.length c0_4] 46 (0, 0)) (zB BK429.out) hb); have n4_ := Aside0.mk (blk_below (g := gb430) (o := .cells #[.int .u16 a0_0, .slice A0_1 l0_1.length c0_1] 25 (0, 0)) (zB BK430.out) hb); have n5_ := Aside0.mk (below_step (by repeat (first | (with_reducible first | exact HB.out | apply pA | apply pN | apply pD | refine pS ?_ GE429.out | refine pS ?_ GE430.out) | exact HB.out)) hb); have n6_ := Aside0.mk (hbox); have n7_ := Aside0.mk ((by rw [hg]; exact (below_size (by repeat (first | (with_reducible first | exact HB.out | apply pA | apply pN | apply pD | refine pS ?_ GE429.out | refine pS ?_ GE430.out) | exact HB.out))) : w.heap.size ≤ gb446)); have n8_ := Aside0.mk ((by rw [hg]; exact (below_size (by repeat (first | (with_reducible first | exact HB.out | apply pA | apply pN | apply pD | refine pS ?_ GE429.out | refine pS ?_ GE430.out) | exact HB.out))) : w.heap.size ≤ gb446)); have n9_ := Aside0.mk ((by rw [hg]; exact Nat.ne_of_lt (blk_lt (g := gb429) (o := .cells #[.int .u16 a0_0, .slice A0_1 l0_1.length c0_1, .int .u32 a0_2, .bool a0_3, .slice A0_4 l0_4.length c0_4] 46 (0, 0)) (zB BK429.out)) : gb429 ≠ gb446)); have n10_ := Aside0.mk ((by rw [hg]; exact Nat.ne_of_gt (blk_lt (g := gb429) (o := .cells #[.int .u16 a0_0, .slice A0_1 l0_1.length c0_1, .int .u32 a0_2, .bool a0_3, .slice A0_4 l0_4.length c0_4] 46 (0, 0)) (zB BK429.out)) : gb446 ≠ gb429)); have n11_ := Aside0.mk ((by rw [hg]; exact Nat.ne_of_lt (blk_lt (g := gb430) (o := .cells #[.int .u16 a0_0, .slice A0_1 l0_1.length c0_1] 25 (0, 0)) (zB BK430.out)) : gb430 ≠ gb446)); have n12_ := Aside0.mk ((by rw [hg]; exact Nat.ne_of_gt (blk_lt (g := gb430) (o := .cells #[.int .u16 a0_0, .slice A0_1 l0_1.length c0_1] 25 (0, 0)) (zB BK430.out)) : gb446 ≠ gb430)); clear HO434; clear HO439; clear HO444; clear BK429; clear BK430; clear HB; have HO434 := n0_; have HO439 := n1_; have HO444 := n2_; have BK429 := n3_; have BK430 := n4_; have HB := n5_; have BK446 := n6_; have GW446 := n7_; have GE446 := n8_; have NB429_446 := n9_; have NB446_429 := n10_; have NB430_446 := n11_; have NB446_430 := n12_; clear n0_ n1_ n2_ n3_ n4_ n5_ n6_ n7_ n8_ n9_ n10_ n11_ n12_; clear hb hbox hg; have hnb30 := NB446_429.out; have hnc30 := NB429_446.out; have hnb31 := NB446_430.out; have hnc31 := NB430_446.out; obtain ⟨hcz32_0, hcz32_1, hfz32_0, hfz32_1⟩ := bk2 BK446.out; obtain ⟨Ao33, co33, eo33⟩ := Kd.V_slice HO444.out; subst eo33))
     (try simp only [Act.put, sT, s0, s1])
     go_cut [81] (fun v81 wc => ∃ (kq : Nat) (x81_20 : Bool), v81 = .bool x81_20 ∧ Aside0 (portreevelaw08_FrameBack.j1 kq l0_4 t431 t432 x81_20 a0_0 l0_1 = some r) ∧ Aside0 (kq ≤ kj2) ∧ Aside0 (Kd.R (Kd.int .u8) 5 wc w.heap.size (fun _ => True) v433 t432) ∧ Aside0 (Kd.V (Kd.int .u8) 5 wc w.heap.size (fun k_ => some k_ ≠ (v433 : Value).ownBlock ∧ k_ ≠ gb429 ∧ k_ ≠ gb430 ∧ k_ ≠ gb446) (.slice Ao33 t442.length co33) t442) ∧ Aside0 (wc.heap[gb429]? = some (.cells #[.int .u16 a0_0, (.slice A0_1 l0_1.length c0_1), .int .u32 a0_2, .bool a0_3, (.slice A0_4 l0_4.length c0_4)] 46 (0, 0))) ∧ Aside0 (wc.heap[gb430]? = some (.cells #[.int .u16 a0_0, (.slice A0_1 l0_1.length c0_1)] 25 (0, 0))) ∧ Aside0 (wc.heap[gb446]? = some (.cells #[.int .u16 t441, (.slice Ao33 t442.length co33)] 25 (0, 0))) ∧ Aside0 (Below w.heap.size w wc))
     case first =>
      have H := HC21.out
      clear HC21
      by_cases c34 : t440 = 0
      ·rw [if_pos c34] at H
       have c34b0 : (t440 == 0) = true := beq_iff_eq.mpr c34
       have c34b1 : (t440 != 0) = false := bne_eq_false_iff_eq.mpr c34
       clear c34
       (first | rw [c34b0] | (simp only [i64_w, i32_w]; rw [c34b0]) | skip)
       by_cases c35 : t445 = 0
       ·rw [if_pos c35] at H
        have c35b0 : (t445 == 0) = true := beq_iff_eq.mpr c35
        have c35b1 : (t445 != 0) = false := bne_eq_false_iff_eq.mpr c35
        clear c35
        replace H := Option.bind_eq_some_iff.mp H
        obtain ⟨t447, A360, H⟩ := H
        replace H : (portreevelaw08_FrameBack.j1 kj2 l0_4 t431 t432 (!t447) a0_0 l0_1) = some r := H
        have A36 := Aside0.mk A360
        clear A360
        have H' := Aside0.mk H
        clear H
        have hnb37 := NB446_429.out
        have hnc37 := NB429_446.out
        have hnb38 := NB446_430.out
        have hnc38 := NB430_446.out
        obtain ⟨hcz39_0, hcz39_1, hfz39_0, hfz39_1⟩ := bk2 BK446.out
        have hnb40 := NB430_429.out
        have hnc40 := NB429_430.out
        obtain ⟨hcz41_0, hcz41_1, hfz41_0, hfz41_1⟩ := bk2 BK430.out
        go_wp2_with (first | (go_at_call 12; (with_reducible refine (portreeveref08_Same.calls kj2 t441 _ _ t442 a0_0 _ _ l0_1 t447 _ ?side1 ?side2 ?side3 ?side4 A36.out).mono ?_); (case side1 => refine (Kd.V_reads' (e := 5) (base := w.heap.size) (ok := fun k_ => ((some k_ ≠ (v433 : Value).ownBlock ∧ (some k_ ≠ (.slice Ao27 t437.length co27 : Value).ownBlock ∧ (k_ ≠ gb429 ∧ k_ ≠ gb430))) ∧ k_ ≠ gb446)) (n := t442.length) (c := co33) ?_).2.2; exact (zV ((Kd.V_mono (Kd.V_far (p := ⟨gb446, 1, none⟩) (Kd.V_far (p := ⟨gb446, 0, none⟩) (Kd.V_mono HO444.out (fun k_ hk => (⟨hk, hk.2⟩ : _ ∧ k_ ≠ gb446))) (fun _ hk => hk.2) (.int .u16 t441)) (fun _ hk => hk.2) (.slice Ao33 t442.length co33)) (fun _ h_ => h_.1))))); (case side2 => exact (Kd.V_reads' HO444.out).2.1); (case side3 => exact Kd.C_below HR0_1.out (by repeat (first | (with_reducible first | exact HB.out | apply pA | apply pN | apply pD | refine pS ?_ GE429.out | refine pS ?_ GE430.out | refine pS ?_ GE446.out) | exact HB.out))); (case side4 => exact HC0_1.out); rintro e w42 ⟨rfl, hb⟩; have n0_ := Aside0.mk (Kd.R_below (zR ((Kd.R_mono (Kd.R_far (p := ⟨gb446, 1, none⟩) (Kd.R_far (p := ⟨gb446, 0, none⟩) (Kd.R_types HO434.out BK446.out (by decide)) (fun _ hk => hk.2) (.int .u16 t441)) (fun _ hk => hk.2) (.slice Ao33 t442.length co33)) (fun _ h_ => h_.1)))) hb); have n1_ := Aside0.mk (Kd.R_below (zR ((Kd.R_mono (Kd.R_far (p := ⟨gb446, 1, none⟩) (Kd.R_far (p := ⟨gb446, 0, none⟩) (Kd.R_types HO439.out BK446.out (by decide)) (fun _ hk => hk.2) (.int .u16 t441)) (fun _ hk => hk.2) (.slice Ao33 t442.length co33)) (fun _ h_ => h_.1)))) hb); have n2_ := Aside0.mk (Kd.V_below (zV ((Kd.V_mono (Kd.V_far (p := ⟨gb446, 1, none⟩) (Kd.V_far (p := ⟨gb446, 0, none⟩) (Kd.V_mono HO444.out (fun k_ hk => (⟨hk, hk.2⟩ : _ ∧ k_ ≠ gb446))) (fun _ hk => hk.2) (.int .u16 t441)) (fun _ hk => hk.2) (.slice Ao33 t442.length co33)) (fun _ h_ => h_.1)))) hb); have n3_ := Aside0.mk (blk_below (g := gb429) (o := .cells #[.int .u16 a0_0, .slice A0_1 l0_1.length c0_1, .int .u32 a0_2, .bool a0_3, .slice A0_4 l0_4.length c0_4] 46 (0, 0)) (by (with_reducible repeat (first | refine qN ?_ _ | refine qD ?_ | refine qA ?_ _)); refine blk_far ?_ NB429_446.out _; (with_reducible repeat (first | refine qN ?_ _ | refine qD ?_ | refine qA ?_ _)); refine blk_far ?_ NB429_446.out _; (with_reducible repeat (first | refine qN ?_ _ | refine qD ?_ | refine qA ?_ _)); exact BK429.out) hb); have n4_ := Aside0.mk (blk_below (g := gb430) (o := .cells #[.int .u16 a0_0, .slice A0_1 l0_1.length c0_1] 25 (0, 0)) (by (with_reducible repeat (first | refine qN ?_ _ | refine qD ?_ | refine qA ?_ _)); refine blk_far ?_ NB430_446.out _; (with_reducible repeat (first | refine qN ?_ _ | refine qD ?_ | refine qA ?_ _)); refine blk_far ?_ NB430_446.out _; (with_reducible repeat (first | refine qN ?_ _ | refine qD ?_ | refine qA ?_ _)); exact BK430.out) hb); have n5_ := Aside0.mk (blk_below (g := gb446) (o := .cells #[.int .u16 t441, .slice Ao33 t442.length co33] 25 (0, 0)) (by (with_reducible repeat (first | refine qN ?_ _ | refine qD ?_ | refine qA ?_ _)); refine blk_put (cs := #[.int .u16 t441, .slice none 0 0]) ?_ 1 _ rfl; (with_reducible repeat (first | refine qN ?_ _ | refine qD ?_ | refine qA ?_ _)); refine blk_put (cs := #[.int .u16 0, .slice none 0 0]) ?_ 0 _ rfl; (with_reducible repeat (first | refine qN ?_ _ | refine qD ?_ | refine qA ?_ _)); exact BK446.out) hb); have n6_ := Aside0.mk (below_step (by repeat (first | (with_reducible first | exact HB.out | apply pA | apply pN | apply pD | refine pS ?_ GE429.out | refine pS ?_ GE430.out | refine pS ?_ GE446.out) | exact HB.out)) hb); clear HO434; clear HO439; clear HO444; clear BK429; clear BK430; clear BK446; clear HB; have HO434 := n0_; have HO439 := n1_; have HO444 := n2_; have BK429 := n3_; have BK430 := n4_; have BK446 := n5_; have HB := n6_; clear n0_ n1_ n2_ n3_ n4_ n5_ n6_; (try clear hb); (try clear hb2); (try clear hk); (try clear hi)))
        go_meet
        case rel => exact ⟨_, (!t447), (by first | rfl | (simp; done) | (simp [*]; done)), H', ⟨by have := HJ2.out; first | omega | exact Nat.le_refl _⟩, ⟨zR (Kd.R_mono HO434.out (fun _ hk => trivial))⟩, ⟨zV (Kd.V_mono HO444.out (fun _ hk => ⟨hk.1.1, ⟨hk.1.2.2.1, ⟨hk.1.2.2.2, hk.2⟩⟩⟩))⟩, ⟨zB BK429.out⟩, ⟨zB BK430.out⟩, ⟨zB BK446.out⟩, ⟨by repeat (first | (with_reducible first | exact HB.out | apply pA | apply pN | apply pD | refine pS ?_ GE429.out | refine pS ?_ GE430.out | refine pS ?_ GE446.out) | exact HB.out)⟩⟩
       ·rw [if_neg c35] at H
        have c35b0 : (t445 == 0) = false := beq_eq_false_iff_ne.mpr c35
        have c35b1 : (t445 != 0) = true := bne_iff_ne.mpr c35
        have H' := Aside0.mk H
        clear H
        go_wp2
        go_meet
        case rel => exact ⟨_, (true), (by first | rfl | (simp; done) | (simp [*]; done)), H', ⟨by have := HJ2.out; first | omega | exact Nat.le_refl _⟩, ⟨zR (Kd.R_mono (Kd.R_far (p := ⟨gb446, 1, none⟩) (Kd.R_far (p := ⟨gb446, 0, none⟩) (Kd.R_types HO434.out BK446.out (by decide)) (fun _ hk => hk.2) (.int .u16 t441)) (fun _ hk => hk.2) (.slice Ao33 t442.length co33)) (fun _ hk => trivial))⟩, ⟨zV (Kd.V_mono (Kd.V_far (p := ⟨gb446, 1, none⟩) (Kd.V_far (p := ⟨gb446, 0, none⟩) (Kd.V_mono HO444.out (fun k_ hk => (⟨hk, hk.2⟩ : _ ∧ k_ ≠ gb446))) (fun _ hk => hk.2) (.int .u16 t441)) (fun _ hk => hk.2) (.slice Ao33 t442.length co33)) (fun _ hk => ⟨hk.1.1.1, ⟨hk.1.1.2.2.1, ⟨hk.1.1.2.2.2, hk.1.2⟩⟩⟩))⟩, ⟨by (with_reducible repeat (first | refine qN ?_ _ | refine qD ?_ | refine qA ?_ _)); refine blk_far ?_ NB429_446.out _; (with_reducible repeat (first | refine qN ?_ _ | refine qD ?_ | refine qA ?_ _)); refine blk_far ?_ NB429_446.out _; (with_reducible repeat (first | refine qN ?_ _ | refine qD ?_ | refine qA ?_ _)); exact BK429.out⟩, ⟨by (with_reducible repeat (first | refine qN ?_ _ | refine qD ?_ | refine qA ?_ _)); refine blk_far ?_ NB430_446.out _; (with_reducible repeat (first | refine qN ?_ _ | refine qD ?_ | refine qA ?_ _)); refine blk_far ?_ NB430_446.out _; (with_reducible repeat (first | refine qN ?_ _ | refine qD ?_ | refine qA ?_ _)); exact BK430.out⟩, ⟨by (with_reducible repeat (first | refine qN ?_ _ | refine qD ?_ | refine qA ?_ _)); refine blk_put (cs := #[.int .u16 t441, .slice none 0 0]) ?_ 1 _ rfl; (with_reducible repeat (first | refine qN ?_ _ | refine qD ?_ | refine qA ?_ _)); refine blk_put (cs := #[.int .u16 0, .slice none 0 0]) ?_ 0 _ rfl; (with_reducible repeat (first | refine qN ?_ _ | refine qD ?_ | refine qA ?_ _)); exact BK446.out⟩, ⟨by repeat (first | (with_reducible first | exact HB.out | apply pA | apply pN | apply pD | refine pS ?_ GE429.out | refine pS ?_ GE430.out | refine pS ?_ GE446.out) | exact HB.out)⟩⟩
      ·rw [if_neg c34] at H
       have c34b0 : (t440 == 0) = false := beq_eq_false_iff_ne.mpr c34
       have c34b1 : (t440 != 0) = true := bne_iff_ne.mpr c34
       (first | rw [c34b0] | (simp only [i64_w, i32_w]; rw [c34b0]) | skip)
       have H' := Aside0.mk H
       clear H
       go_wp2
       go_meet
       case rel => exact ⟨_, (true), (by first | rfl | (simp; done) | (simp [*]; done)), H', ⟨by have := HJ2.out; first | omega | exact Nat.le_refl _⟩, ⟨zR (Kd.R_mono (Kd.R_far (p := ⟨gb446, 1, none⟩) (Kd.R_far (p := ⟨gb446, 0, none⟩) (Kd.R_types HO434.out BK446.out (by decide)) (fun _ hk => hk.2) (.int .u16 t441)) (fun _ hk => hk.2) (.slice Ao33 t442.length co33)) (fun _ hk => trivial))⟩, ⟨zV (Kd.V_mono (Kd.V_far (p := ⟨gb446, 1, none⟩) (Kd.V_far (p := ⟨gb446, 0, none⟩) (Kd.V_mono HO444.out (fun k_ hk => (⟨hk, hk.2⟩ : _ ∧ k_ ≠ gb446))) (fun _ hk => hk.2) (.int .u16 t441)) (fun _ hk => hk.2) (.slice Ao33 t442.length co33)) (fun _ hk => ⟨hk.1.1.1, ⟨hk.1.1.2.2.1, ⟨hk.1.1.2.2.2, hk.1.2⟩⟩⟩))⟩, ⟨by (with_reducible repeat (first | refine qN ?_ _ | refine qD ?_ | refine qA ?_ _)); refine blk_far ?_ NB429_446.out _; (with_reducible repeat (first | refine qN ?_ _ | refine qD ?_ | refine qA ?_ _)); refine blk_far ?_ NB429_446.out _; (with_reducible repeat (first | refine qN ?_ _ | refine qD ?_ | refine qA ?_ _)); exact BK429.out⟩, ⟨by (with_reducible repeat (first | refine qN ?_ _ | refine qD ?_ | refine qA ?_ _)); refine blk_far ?_ NB430_446.out _; (with_reducible repeat (first | refine qN ?_ _ | refine qD ?_ | refine qA ?_ _)); refine blk_far ?_ NB430_446.out _; (with_reducible repeat (first | refine qN ?_ _ | refine qD ?_ | refine qA ?_ _)); exact BK430.out⟩, ⟨by (with_reducible repeat (first | refine qN ?_ _ | refine qD ?_ | refine qA ?_ _)); refine blk_put (cs := #[.int .u16 t441, .slice none 0 0]) ?_ 1 _ rfl; (with_reducible repeat (first | refine qN ?_ _ | refine qD ?_ | refine qA ?_ _)); refine blk_put (cs := #[.int .u16 0, .slice none 0 0]) ?_ 0 _ rfl; (with_reducible repeat (first | refine qN ?_ _ | refine qD ?_ | refine qA ?_ _)); exact BK446.out⟩, ⟨by repeat (first | (with_reducible first | exact HB.out | apply pA | apply pN | apply pD | refine pS ?_ GE429.out | refine pS ?_ GE430.out | refine pS ?_ GE446.out) | exact HB.out)⟩⟩
     case rest =>
      clear HC21
      try clear c1
      try clear c2
      try clear p2
      try clear c3
      try clear c4
      try clear c6
      try clear c7
      try clear c8
      try clear c9
      try clear c11
      try clear c11b0
      try clear c11b1
      try clear c12
      try clear c14
      try clear c16
      try clear c18
      try clear c18b0
      try clear c18b1
      try clear c22
      try clear c30
      try clear c31
      try clear c34
      try clear c34b0
      try clear c34b1
      try clear c35
      try clear c35b0
      try clear c35b1
      try clear c37
      try clear c38
      try clear c40
      try clear hcz13_0
      try clear hcz13_1
      try clear hcz15_0
      try clear hcz15_1
      try clear hcz23_0
      try clear hcz23_1
      try clear hcz25_0
      try clear hcz25_1
      try clear hcz32_0
      try clear hcz32_1
      try clear hcz39_0
      try clear hcz39_1
      try clear hcz41_0
      try clear hcz41_1
      try clear hcz5_0
      try clear hcz5_1
      try clear hcz5_2
      try clear hcz5_3
      try clear hcz5_4
      try clear hcz8_0
      try clear hcz8_1
      try clear hcz9_0
      try clear hcz9_1
      try clear hcz9_2
      try clear hcz9_3
      try clear hcz9_4
      try clear hfz13_0
      try clear hfz13_1
      try clear hfz15_0
      try clear hfz15_1
      try clear hfz23_0
      try clear hfz23_1
      try clear hfz25_0
      try clear hfz25_1
      try clear hfz32_0
      try clear hfz32_1
      try clear hfz39_0
      try clear hfz39_1
      try clear hfz41_0
      try clear hfz41_1
      try clear hfz5_0
      try clear hfz5_1
      try clear hfz5_2
      try clear hfz5_3
      try clear hfz5_4
      try clear hfz8_0
      try clear hfz8_1
      try clear hfz9_0
      try clear hfz9_1
      try clear hfz9_2
      try clear hfz9_3
      try clear hfz9_4
      try clear p2
      obtain ⟨kq, x81_20, rfl, HA, HJ20, HO_8, HO_447001, BK429, BK430, BK446, HB⟩ := hcut
      cases kq with
      | zero => exact absurd HA.out (by simp [portreevelaw08_FrameBack.j1])
      | succ kj20 =>
       have H := HA.out
       clear HA
       simp only [portreevelaw08_FrameBack.j1] at H
       by_cases c43 : x81_20 = true
       ·subst c43
        have H1 : (some false) = some r := by rw [if_pos rfl] at H; exact H
        clear H
        have H := H1
        clear H1
        exact absurd ((Option.some.inj H).trans hlaw_.out) (by decide)
       ·replace c43 := Bool.eq_false_iff.mpr c43
        subst c43
        have H1 : ((some (([] : List Int) : List Int)).bind fun y448 => (if y448.length + l0_4.length < 140737488355328 then ((some (y448 ++ l0_4 : List Int)).bind fun y451 => (if y451.length + t432.length < 140737488355328 then ((portreevelaw08_taken.f kj20 (y451 ++ t432)).bind fun t457 => (if t431 = true then (if (t457.length : Int) ≥ 1 then (if 0 ≤ (wrap64 ((t457.length : Int) - 1)) then (if (wrap64 ((t457.length : Int) - 1)) < (t457.length : Int) then ((portreeveref08_Same.f kj20 ((rd_T25 t457 (wrap64 ((t457.length : Int) - 1))).f0) ((rd_T25 t457 (wrap64 ((t457.length : Int) - 1))).f1) a0_0 l0_1).bind fun t461 => (some t461)) else (none)) else (none)) else (some false)) else (some false))) else (none))) else (none))) = some r := by rw [if_neg (show ¬ (false = true) by decide)] at H; exact H
        clear H
        have H := H1
        clear H1
        obtain ⟨y448, hy448⟩ : ∃ y_ : List Int, y_ = (([] : List Int)) := ⟨_, rfl⟩
        replace H : (if y448.length + l0_4.length < 140737488355328 then ((some (y448 ++ l0_4 : List Int)).bind fun y451 => (if y451.length + t432.length < 140737488355328 then ((portreevelaw08_taken.f kj20 (y451 ++ t432)).bind fun t457 => (if t431 = true then (if (t457.length : Int) ≥ 1 then (if 0 ≤ (wrap64 ((t457.length : Int) - 1)) then (if (wrap64 ((t457.length : Int) - 1)) < (t457.length : Int) then ((portreeveref08_Same.f kj20 ((rd_T25 t457 (wrap64 ((t457.length : Int) - 1))).f0) ((rd_T25 t457 (wrap64 ((t457.length : Int) - 1))).f1) a0_0 l0_1).bind fun t461 => (some t461)) else (none)) else (none)) else (some false)) else (some false))) else (none))) else (none)) = some r := by first | (rw [hy448]; with_reducible exact H) | (have H2_ := (Option.bind_some _ _).symm.trans H; rw [hy448]; with_reducible exact H2_) | (have H2_ := (Option.bind_some _ _).symm.trans H; with_reducible exact H2_) | with_reducible exact H | (rw [hy448]; exact H) | exact H
        have Ny448 := Aside0.mk hy448
        clear hy448
        by_cases c44 : y448.length + l0_4.length < 140737488355328
        ·rw [if_pos c44] at H
         have LMc44 := Aside0.mk c44
         clear c44
         obtain ⟨y451, hy451⟩ : ∃ y_ : List Int, y_ = (y448 ++ l0_4) := ⟨_, rfl⟩
         replace H : (if y451.length + t432.length < 140737488355328 then ((portreevelaw08_taken.f kj20 (y451 ++ t432)).bind fun t457 => (if t431 = true then (if (t457.length : Int) ≥ 1 then (if 0 ≤ (wrap64 ((t457.length : Int) - 1)) then (if (wrap64 ((t457.length : Int) - 1)) < (t457.length : Int) then ((portreeveref08_Same.f kj20 ((rd_T25 t457 (wrap64 ((t457.length : Int) - 1))).f0) ((rd_T25 t457 (wrap64 ((t457.length : Int) - 1))).f1) a0_0 l0_1).bind fun t461 => (some t461)) else (none)) else (none)) else (some false)) else (some false))) else (none)) = some r := by first | (rw [hy451]; with_reducible exact H) | (have H2_ := (Option.bind_some _ _).symm.trans H; rw [hy451]; with_reducible exact H2_) | (have H2_ := (Option.bind_some _ _).symm.trans H; with_reducible exact H2_) | with_reducible exact H | (rw [hy451]; exact H) | exact H
         have Ny451 := Aside0.mk hy451
         clear hy451
         by_cases c45 : y451.length + t432.length < 140737488355328
         ·rw [if_pos c45] at H
          have LMc45 := Aside0.mk c45
          clear c45
          obtain ⟨y454, hy454⟩ : ∃ y_ : List Int, y_ = (y451 ++ t432) := ⟨_, rfl⟩
          replace H : ((portreevelaw08_taken.f kj20 y454).bind fun t457 => (if t431 = true then (if (t457.length : Int) ≥ 1 then (if 0 ≤ (wrap64 ((t457.length : Int) - 1)) then (if (wrap64 ((t457.length : Int) - 1)) < (t457.length : Int) then ((portreeveref08_Same.f kj20 ((rd_T25 t457 (wrap64 ((t457.length : Int) - 1))).f0) ((rd_T25 t457 (wrap64 ((t457.length : Int) - 1))).f1) a0_0 l0_1).bind fun t461 => (some t461)) else (none)) else (none)) else (some false)) else (some false))) = some r := by first | (rw [hy454]; with_reducible exact H) | (have H2_ := (Option.bind_some _ _).symm.trans H; rw [hy454]; with_reducible exact H2_) | (have H2_ := (Option.bind_some _ _).symm.trans H; with_reducible exact H2_) | with_reducible exact H | (rw [hy454]; exact H) | exact H
          have Ny454 := Aside0.mk hy454
          clear hy454
          replace H := Option.bind_eq_some_iff.mp H
          obtain ⟨t457, A460, H⟩ := H
          replace H : (if t431 = true then (if (t457.length : Int) ≥ 1 then (if 0 ≤ (wrap64 ((t457.length : Int) - 1)) then (if (wrap64 ((t457.length : Int) - 1)) < (t457.length : Int) then ((portreeveref08_Same.f kj20 ((rd_T25 t457 (wrap64 ((t457.length : Int) - 1))).f0) ((rd_T25 t457 (wrap64 ((t457.length : Int) - 1))).f1) a0_0 l0_1).bind fun t461 => (some t461)) else (none)) else (none)) else (some false)) else (some false)) = some r := H
          have A46 := Aside0.mk A460
          clear A460
          by_cases c47 : t431 = true
          ·subst c47
           have H1 : (if (t457.length : Int) ≥ 1 then (if 0 ≤ (wrap64 ((t457.length : Int) - 1)) then (if (wrap64 ((t457.length : Int) - 1)) < (t457.length : Int) then ((portreeveref08_Same.f kj20 ((rd_T25 t457 (wrap64 ((t457.length : Int) - 1))).f0) ((rd_T25 t457 (wrap64 ((t457.length : Int) - 1))).f1) a0_0 l0_1).bind fun t461 => (some t461)) else (none)) else (none)) else (some false)) = some r := by rw [if_pos rfl] at H; exact H
           clear H
           have H := H1
           clear H1
           by_cases c48 : (t457.length : Int) ≥ 1
           ·rw [if_pos c48] at H
            have c48b0 : decide (1 ≤ (t457.length : Int)) = true := decide_eq_true c48
            have c48b1 : decide (1 ≤ t457.length) = true := decide_eq_true (by omega)
            clear c48
            obtain ⟨ji49, hji49⟩ : ∃ j_ : Int, (wrap64 ((t457.length : Int) - 1)) = j_ := ⟨_, rfl⟩
            replace H : (if 0 ≤ (ji49) then (if (ji49) < (t457.length : Int) then ((portreeveref08_Same.f kj20 ((rd_T25 t457 (ji49)).f0) ((rd_T25 t457 (ji49)).f1) a0_0 l0_1).bind fun t461 => (some t461)) else (none)) else (none)) = some r := by first | (rw [hji49] at H; exact H) | (simp only [hji49] at H ⊢; exact H)
            (try rw [hji49] at A46)
            have hji49w : (IntKind.i64.wrap ((t457.length : Int) - 1)) = ji49 := (i64_w _).trans hji49
            by_cases c50 : 0 ≤ (ji49)
            ·rw [if_pos c50] at H
             have c50b0 : decide (0 ≤ (ji49)) = true := decide_eq_true c50
             clear c50
             by_cases c51 : (ji49) < (t457.length : Int)
             ·rw [if_pos c51] at H
              have c51b0 : decide ((ji49) < (t457.length : Int)) = true := decide_eq_true c51
              clear c51
              replace H := Option.bind_eq_some_iff.mp H
              obtain ⟨t461, A520, H⟩ := H
              replace H : (some t461) = some r := H
              have A52 := Aside0.mk A520
              clear A520
              clear hlaw_
              obtain rfl := Option.some.inj H
              try go_wp2_with (first | ((with_reducible refine gate_dst (N := 82) rfl ?_); (try (refine gate_guard (by rfl) ?_; dsimp only)); refine Kd.R_lit (Kd.int .u8) _ 5 ?hg (N := 82) ?hd (xs := ([] : List Int)) (inner := []) (ok := fun _ => True) (okp := fun _ => True) ?hr ?hp (fun _ hk => hk) trivial (Below.refl _ _) (Nat.le_refl _) (by simp) ?_; (case hd => rfl); (case hg => rfl); (case hr => first | (go_simp; done) | (go_simp; rfl)); (case hp => exact (Reps.none _ _)); intro v449 w53 ho54 hb hg_ hnew_; clear hg_ hnew_; (first | rw [← Ny448.out] at ho54 | (simp only [Int.reduceToNat] at ho54; rw [← Ny448.out] at ho54)); have n0_ := Aside0.mk (Kd.R_elder' (zR HO_8.out) (Kd.R_base ho54) hb); have n1_ := Aside0.mk (Kd.V_elder' (zV HO_447001.out) (Kd.R_base ho54) hb); have n2_ := Aside0.mk (Kd.R_lower (Kd.R_new' ho54 (Kd.R_lt (zR HO_8.out))) (below_size (by repeat (first | (with_reducible first | exact HB.out | apply pA | apply pN | apply pD | refine pS ?_ GE429.out | refine pS ?_ GE430.out | refine pS ?_ GE446.out) | exact HB.out)))); have n3_ := Aside0.mk (blk_below (g := gb429) (o := .cells #[.int .u16 a0_0, .slice A0_1 l0_1.length c0_1, .int .u32 a0_2, .bool a0_3, .slice A0_4 l0_4.length c0_4] 46 (0, 0)) (zB BK429.out) hb); have n4_ := Aside0.mk (blk_below (g := gb430) (o := .cells #[.int .u16 a0_0, .slice A0_1 l0_1.length c0_1] 25 (0, 0)) (zB BK430.out) hb); have n5_ := Aside0.mk (blk_below (g := gb446) (o := .cells #[.int .u16 t441, .slice Ao33 t442.length co33] 25 (0, 0)) (zB BK446.out) hb); have n6_ := Aside0.mk (below_step (by repeat (first | (with_reducible first | exact HB.out | apply pA | apply pN | apply pD | refine pS ?_ GE429.out | refine pS ?_ GE430.out | refine pS ?_ GE446.out) | exact HB.out)) hb); clear HO_8; clear HO_447001; clear BK429; clear BK430; clear BK446; clear HB; have HO_8 := n0_; have HO_447001 := n1_; have HO450 := n2_; have BK429 := n3_; have BK430 := n4_; have BK446 := n5_; have HB := n6_; clear n0_ n1_ n2_ n3_ n4_ n5_ n6_; clear hb ho54) | ((with_reducible refine gate_builtin (b := .append) (xs := #[.tmp 82, .tmp 83]) rfl ?_); (try (refine gate_guard (by rfl) ?_; dsimp only)); at_builtin; refine Kd.R_append_rows (Kd.int .u8) (w0 := w) w.heap.size rfl (.tmp 82) (.tmp 83) 23 5 (.int .u8 0) 1 rfl Try.underlying23 info5 rfl (by decide) (by omega) v449 y448 l0_4 _ _ _ (fun k_ => some k_ ≠ (v433 : Value).ownBlock) (fun _ => False) rfl rfl ?aO ?aR (fun _ _ h => h) (fun _ h => h.elim) ?aF ?aB ?aS ?aL ?_; (case aR => repeat (first | exact (Kd.C_below HR0_4.out HB.out) | (with_reducible refine Kd.C_alloc ?_ _) | (with_reducible refine Kd.C_drewN ?_ _) | (with_reducible refine Kd.C_drew ?_))); (case aB => exact (by repeat (first | (with_reducible first | exact HB.out | apply pA | apply pN | apply pD | refine pS ?_ GE429.out | refine pS ?_ GE430.out | refine pS ?_ GE446.out) | exact HB.out))); (case aF => exact (fun k_ hk => Kd.fresh' (Kd.R_lt (zR HO_8.out)) k_ hk)); (case aO => exact (zR (Kd.R_mono HO450.out (fun _ hk => hk.2)))); (case aS => exact (below_size (by repeat (first | (with_reducible first | exact HB.out | apply pA | apply pN | apply pD | refine pS ?_ GE429.out | refine pS ?_ GE430.out | refine pS ?_ GE446.out) | exact HB.out)))); (case aL => have := LMc44.out; omega); intro v452 w55 ho hb hg hat; rw [← Ny451.out] at ho; have n0_ := Aside0.mk (Kd.R_after (ok := (fun _ => True)) (zR HO_8.out) hg hat); have n1_ := Aside0.mk (Kd.V_afterv (ok := (fun k_ => some k_ ≠ (v433 : Value).ownBlock ∧ k_ ≠ gb429 ∧ k_ ≠ gb430 ∧ k_ ≠ gb446)) (zV HO_447001.out) hg hat); have n2_ := Aside0.mk (blk_grown (g := gb429) (o := .cells #[.int .u16 a0_0, .slice A0_1 l0_1.length c0_1, .int .u32 a0_2, .bool a0_3, .slice A0_4 l0_4.length c0_4] 46 (0, 0)) (zB BK429.out) hg (Kd.R_ne HO450.out BK429.out (by decide))); have n3_ := Aside0.mk (blk_grown (g := gb430) (o := .cells #[.int .u16 a0_0, .slice A0_1 l0_1.length c0_1] 25 (0, 0)) (zB BK430.out) hg (Kd.R_ne HO450.out BK430.out (by decide))); have n4_ := Aside0.mk (blk_grown (g := gb446) (o := .cells #[.int .u16 t441, .slice Ao33 t442.length co33] 25 (0, 0)) (zB BK446.out) hg (Kd.R_ne HO450.out BK446.out (by decide))); have n5_ := Aside0.mk (hb); have n6_ := Aside0.mk (ho); clear HO_8; clear HO_447001; clear BK429; clear BK430; clear BK446; clear HB; clear HO450; have HO_8 := n0_; have HO_447001 := n1_; have BK429 := n2_; have BK430 := n3_; have BK446 := n4_; have HB := n5_; have HO453 := n6_; clear n0_ n1_ n2_ n3_ n4_ n5_ n6_; clear ho hb hg hat; obtain ⟨Ao57, co57, eo57⟩ := Kd.R_slice HO_8.out; subst eo57) | ((with_reducible refine gate_builtin (b := .append) (xs := #[.tmp 84, .tmp 85]) rfl ?_); (try (refine gate_guard (by rfl) ?_; dsimp only)); at_builtin; refine Kd.R_append_rows (Kd.int .u8) (w0 := w) w.heap.size rfl (.tmp 84) (.tmp 85) 23 5 (.int .u8 0) 1 rfl Try.underlying23 info5 rfl (by decide) (by omega) v452 y451 t432 _ _ _ (fun k_ => some k_ ≠ (.slice Ao57 t432.length co57 : Value).ownBlock) (fun _ => False) rfl rfl ?aO ?aR (fun _ _ h => h) (fun _ h => h.elim) ?aF ?aB ?aS ?aL ?_; (case aR => repeat (first | exact (Kd.R_reads' HO_8.out).2.2 | (with_reducible refine Kd.C_alloc ?_ _) | (with_reducible refine Kd.C_drewN ?_ _) | (with_reducible refine Kd.C_drew ?_))); (case aB => exact (by repeat (first | (with_reducible first | exact HB.out | apply pA | apply pN | apply pD | refine pS ?_ GE429.out | refine pS ?_ GE430.out | refine pS ?_ GE446.out) | exact HB.out))); (case aF => exact (fun k_ hk => Kd.fresh' (Kd.R_lt (zR HO_8.out)) k_ hk)); (case aO => exact (zR HO453.out)); (case aS => exact (below_size (by repeat (first | (with_reducible first | exact HB.out | apply pA | apply pN | apply pD | refine pS ?_ GE429.out | refine pS ?_ GE430.out | refine pS ?_ GE446.out) | exact HB.out)))); (case aL => have := LMc45.out; omega); intro v455 w56 ho hb hg hat; rw [← Ny454.out] at ho; have n0_ := Aside0.mk (Kd.R_after (ok := (fun _ => True)) (zR HO_8.out) hg hat); have n1_ := Aside0.mk (Kd.V_afterv (ok := (fun k_ => some k_ ≠ (.slice Ao57 t432.length co57 : Value).ownBlock ∧ k_ ≠ gb429 ∧ k_ ≠ gb430 ∧ k_ ≠ gb446)) (zV HO_447001.out) hg hat); have n2_ := Aside0.mk (blk_grown (g := gb429) (o := .cells #[.int .u16 a0_0, .slice A0_1 l0_1.length c0_1, .int .u32 a0_2, .bool a0_3, .slice A0_4 l0_4.length c0_4] 46 (0, 0)) (zB BK429.out) hg (Kd.R_ne HO453.out BK429.out (by decide))); have n3_ := Aside0.mk (blk_grown (g := gb430) (o := .cells #[.int .u16 a0_0, .slice A0_1 l0_1.length c0_1] 25 (0, 0)) (zB BK430.out) hg (Kd.R_ne HO453.out BK430.out (by decide))); have n4_ := Aside0.mk (blk_grown (g := gb446) (o := .cells #[.int .u16 t441, .slice Ao33 t442.length co33] 25 (0, 0)) (zB BK446.out) hg (Kd.R_ne HO453.out BK446.out (by decide))); have n5_ := Aside0.mk (hb); have n6_ := Aside0.mk (ho); clear HO_8; clear HO_447001; clear BK429; clear BK430; clear BK446; clear HB; clear HO453; have HO_8 := n0_; have HO_447001 := n1_; have BK429 := n2_; have BK430 := n3_; have BK446 := n4_; have HB := n5_; have HO456 := n6_; clear n0_ n1_ n2_ n3_ n4_ n5_ n6_; clear ho hb hg hat; obtain ⟨Ao58, co58, eo58⟩ := Kd.R_slice HO456.out; subst eo58) | ((with_reducible refine gate_callee (f := 19) rfl ?_); refine goesL_ (some 87) rfl rfl Try.func19 (by kernel_rfl) rfl #[.slice Ao58 y454.length co58] rfl (by (try simp only [List.map_toArray, List.map_cons, List.map_nil]); first | done | rfl | (simp only [List.length_drop, List.length_take]; rfl)) ?_; (with_reducible refine (portreevelaw08_taken.calls kj20 _ _ y454 t457 _ ?side1 ?side2 A46.out).mono ?_); (case side1 => repeat (first | exact (Kd.R_reads' HO456.out).2.2 | (with_reducible refine Kd.C_alloc ?_ _) | (with_reducible refine Kd.C_drewN ?_ _) | (with_reducible refine Kd.C_drew ?_))); (case side2 => exact (Kd.R_reads' HO456.out).2.1); rintro e w59 ⟨v458, rfl, ho0, hb⟩; refine ⟨_, rfl, ?_⟩; have n0_ := Aside0.mk (Kd.R_below (zR HO_8.out) hb); have n1_ := Aside0.mk (Kd.V_elder' (zV HO_447001.out) (Kd.N_base ho0) hb); have n2_ := Aside0.mk (Kd.R_below (zR HO456.out) hb); have n3_ := Aside0.mk (Kd.N_lower (Kd.N_mono (ok' := fun k_ => some k_ ≠ (.slice Ao57 t432.length co57 : Value).ownBlock ∧ some k_ ≠ (.slice Ao58 y454.length co58 : Value).ownBlock ∧ k_ ≠ gb429 ∧ k_ ≠ gb430 ∧ k_ ≠ gb446) ho0 (fun k_ hk_ => ⟨(Kd.fresh' (Kd.R_lt (zR HO_8.out)) k_ hk_), (Kd.fresh' (Kd.R_lt (zR HO456.out)) k_ hk_), (Kd.freshB (g := gb429) (o := .cells #[.int .u16 a0_0, .slice A0_1 l0_1.length c0_1, .int .u32 a0_2, .bool a0_3, .slice A0_4 l0_4.length c0_4] 46 (0, 0)) (zB BK429.out) k_ hk_), (Kd.freshB (g := gb430) (o := .cells #[.int .u16 a0_0, .slice A0_1 l0_1.length c0_1] 25 (0, 0)) (zB BK430.out) k_ hk_), (Kd.freshB (g := gb446) (o := .cells #[.int .u16 t441, .slice Ao33 t442.length co33] 25 (0, 0)) (zB BK446.out) k_ hk_)⟩)) (below_size (by repeat (first | (with_reducible first | exact HB.out | apply pA | apply pN | apply pD | refine pS ?_ GE429.out | refine pS ?_ GE430.out | refine pS ?_ GE446.out) | exact HB.out)))); have n4_ := Aside0.mk (blk_below (g := gb429) (o := .cells #[.int .u16 a0_0, .slice A0_1 l0_1.length c0_1, .int .u32 a0_2, .bool a0_3, .slice A0_4 l0_4.length c0_4] 46 (0, 0)) (zB BK429.out) hb); have n5_ := Aside0.mk (blk_below (g := gb430) (o := .cells #[.int .u16 a0_0, .slice A0_1 l0_1.length c0_1] 25 (0, 0)) (zB BK430.out) hb); have n6_ := Aside0.mk (blk_below (g := gb446) (o := .cells #[.int .u16 t441, .slice Ao33 t442.length co33] 25 (0, 0)) (zB BK446.out) hb); have n7_ := Aside0.mk (below_step (by repeat (first | (with_reducible first | exact HB.out | apply pA | apply pN | apply pD | refine pS ?_ GE429.out | refine pS ?_ GE430.out | refine pS ?_ GE446.out) | exact HB.out)) hb); clear HO_8; clear HO_447001; clear HO456; clear BK429; clear BK430; clear BK446; clear HB; have HO_8 := n0_; have HO_447001 := n1_; have HO456 := n2_; have HO459 := n3_; have BK429 := n4_; have BK430 := n5_; have BK446 := n6_; have HB := n7_; clear n0_ n1_ n2_ n3_ n4_ n5_ n6_ n7_; (try clear hb); (try clear hb2); (try clear hk); (try clear hi); (try clear ho0)))
              have n0_ := Aside0.mk (Kd.R_drew HO_8.out)
              have n1_ := Aside0.mk (Kd.V_drew HO_447001.out)
              have n2_ := Aside0.mk (Kd.R_drew HO456.out)
              have n3_ := Aside0.mk (Kd.N_drew HO459.out)
              have n4_ := Aside0.mk (qD BK429.out)
              have n5_ := Aside0.mk (qD BK430.out)
              have n6_ := Aside0.mk (qD BK446.out)
              have n7_ := Aside0.mk (pD HB.out)
              clear HO_8
              clear HO_447001
              clear HO456
              clear HO459
              clear BK429
              clear BK430
              clear BK446
              clear HB
              have HO_8 := n0_
              have HO_447001 := n1_
              have HO456 := n2_
              have HO459 := n3_
              have BK429 := n4_
              have BK430 := n5_
              have BK446 := n6_
              have HB := n7_
              clear n0_ n1_ n2_ n3_ n4_ n5_ n6_ n7_
              obtain ⟨Ao61, co61, eo61⟩ := Kd.N_slice HO459.out
              (first | subst eo61 | (injection eo61 with f1_ f2_ f3_; have f4_ := f1_.symm; have f5_ := f3_.symm; clear f1_ f2_ f3_; subst f4_; subst f5_))
              have p460 : 0 ≤ ((ji49) : Int) := of_decide_eq_true (by first | (with_reducible assumption) | assumption)
              have q460 : (ji49) < (t457.length : Int) := of_decide_eq_true (by first | (with_reducible assumption) | assumption)
              obtain ⟨ad460, A460_1, c460_1, e460, hx460_0, hx460_1, hl460_1, hi460_1⟩ := at_T25 (Kd.N_reads' HO459.out).2.2 (ji49) p460 q460
              cases e460
              obtain ⟨ce460, hce460, hMe460, hcc460⟩ := Kd.N_get HO459.out z25 (ji49) p460 (by first | exact q460 | exact of_decide_eq_true (by first | (with_reducible assumption) | assumption) | (have e_ := (Kd.N_reads' HO459.out).1; omega))
              obtain ⟨ua460_1, uc460_1, rfl, ul460_1, ge460_1⟩ := k25_openF hMe460
              have hv460_1 := hcc460 1 _ rfl
              rw [add_field _ _ 1 (by omega)] at hv460_1
              replace hv460_1 := Option.some.inj (hv460_1.symm.trans hx460_1)
              injection hv460_1 with hva_ hvn_ hvc_
              rw [hva_] at ge460_1
              rw [hvc_] at ul460_1
              have HL460_1 := Aside0.mk (show Kd.V (Kd.int .u8) 5 _ w.heap.size _ _ ((rd_T25 t457 (ji49)).f1) from Kd.V_mk ul460_1 ge460_1)
              clear hva_ hvn_ hvc_ ge460_1 ul460_1
              clear hcc460 hce460
              have HR460_1 := Aside0.mk hi460_1
              have HC460_1 := Aside0.mk hl460_1
              clear hi460_1 hl460_1
              replace p460 := eq_true p460
              replace q460 := eq_true q460
              refine start_ (n := 17) (S := fun w' => w'.cell? ⟨gb430, 0, none⟩ = some (.int .u16 a0_0) ∧ w'.cell? ⟨gb430, 1, none⟩ = some (.slice A0_1 l0_1.length c0_1) ∧ w'.cell? (ad460.add (((ji49)).toNat * 2)) = some (.int .u16 ((rd_T25 t457 (ji49)).f0)) ∧ w'.cell? ⟨(ad460.add (((ji49)).toNat * 2)).block, (ad460.add (((ji49)).toNat * 2)).off + 1, none⟩ = some (.slice A460_1 ((rd_T25 t457 (ji49)).f1).length c460_1)) (ds := []) #[false, false, false, false, false, false, false, false, false, false, false, false, false, false, false, false, false] (by kernel_rfl) rfl rfl ⟨(blk_cell BK430.out 0).trans rfl, (blk_cell BK430.out 1).trans rfl, hx460_0, hx460_1⟩ (fun hHeld => ?_); refine with_tabW portreevelaw08_FrameBack.tab16 portreevelaw08_FrameBack.bits16 (fun HT_ HW_ => ?_)
              generalize w59.drew = w60 at HO_8 HO_447001 HO456 HO459 BK429 BK430 BK446 HB HL460_1 HR460_1 hx460_0 hx460_1 hHeld ⊢
              refine pure_ (i := 0) (N := some 88) (v := ?_) (a' := ?_) #[true, false, false, false, false, false, false, false, false, false, false, false, false, false, false, false, false] rfl rfl (any_of HT_.out (by kernel_rfl)) (fun _ _ _ h => h) (Or.inl ⟨by rfl, ?_⟩) ?_ ?_
              rotate_left
              ·intro w'
               go_simp
               with_reducible rfl
              rotate_left
              ·simp only [Act.put, sT, s0, s1, i64_w, i32_w]
               rfl
              refine pure_ (i := 1) (N := some 89) (v := ?_) (a' := ?_) #[true, true, false, false, false, false, false, false, false, false, false, false, false, false, false, false, false] rfl rfl (any_of HT_.out (by kernel_rfl)) (fun _ _ _ h => h) (Or.inl ⟨by rfl, ?_⟩) ?_ ?_
              rotate_left
              ·intro w'
               go_simp
               with_reducible rfl
              rotate_left
              ·simp only [Act.put, sT, s0, s1, i64_w, i32_w]
               rfl
              refine pure_ (i := 2) (N := some 90) (v := ?_) (a' := ?_) #[true, true, true, false, false, false, false, false, false, false, false, false, false, false, false, false, false] rfl rfl (any_of HT_.out (by kernel_rfl)) (fun _ _ _ h => h) (Or.inl ⟨by rfl, ?_⟩) ?_ ?_
              rotate_left
              ·intro w'
               go_simp
               with_reducible rfl
              rotate_left
              ·simp only [Act.put, sT, s0, s1, i64_w, i32_w]
               rfl
              refine pure_ (i := 3) (N := some 91) (v := ?_) (a' := ?_) #[true, true, true, true, false, false, false, false, false, false, false, false, false, false, false, false, false] rfl rfl (any_of HT_.out (by kernel_rfl)) (fun _ _ _ h => h) (Or.inl ⟨by rfl, ?_⟩) ?_ ?_
              rotate_left
              ·intro w'
               go_simp
               with_reducible rfl
              rotate_left
              ·simp only [Act.put, sT, s0, s1, i64_w, i32_w]
               rfl
              refine pure_ (i := 4) (N := some 92) (v := ?_) (a' := ?_) #[true, true, true, true, true, false, false, false, false, false, false, false, false, false, false, false, false] rfl rfl (any_of HT_.out (by kernel_rfl)) (fun _ _ _ h => h) (Or.inl ⟨by rfl, ?_⟩) ?_ ?_
              rotate_left
              ·intro w'
               go_simp
               with_reducible rfl
              rotate_left
              ·simp only [Act.put, sT, s0, s1, i64_w, i32_w]
               rfl
              refine pure_ (i := 5) (N := some 93) (v := ?_) (a' := ?_) #[true, true, true, true, true, true, false, false, false, false, false, false, false, false, false, false, false] rfl rfl (any_of HT_.out (by kernel_rfl)) (fun _ _ _ h => h) (Or.inl ⟨by rfl, ?_⟩) ?_ ?_
              rotate_left
              ·intro w'
               go_simp
               with_reducible rfl
              rotate_left
              ·simp only [Act.put, sT, s0, s1, i64_w, i32_w]
               rfl
              refine pure_ (i := 6) (N := some 94) (v := ?_) (a' := ?_) #[true, true, true, true, true, true, true, false, false, false, false, false, false, false, false, false, false] rfl rfl (any_of HT_.out (by kernel_rfl)) (fun _ _ _ h => h) (Or.inl ⟨by rfl, ?_⟩) ?_ ?_
              rotate_left
              ·intro w'
               go_simp
               with_reducible rfl
              rotate_left
              ·simp only [Act.put, sT, s0, s1, i64_w, i32_w]
               rfl
              refine pure_ (i := 7) (N := some 95) (v := ?_) (a' := ?_) #[true, true, true, true, true, true, true, true, false, false, false, false, false, false, false, false, false] rfl rfl (any_of HT_.out (by kernel_rfl)) (fun _ _ _ h => h) (Or.inl ⟨by rfl, ?_⟩) ?_ ?_
              rotate_left
              ·intro w'
               go_simp
               with_reducible rfl
              rotate_left
              ·simp only [Act.put, sT, s0, s1, i64_w, i32_w]
               rfl
              refine pure_ (i := 8) (N := some 96) (v := ?_) (a' := ?_) #[true, true, true, true, true, true, true, true, true, false, false, false, false, false, false, false, false] rfl rfl (any_of HT_.out (by kernel_rfl)) (fun _ _ _ h => h) (Or.inl ⟨by rfl, ?_⟩) ?_ ?_
              rotate_left
              ·intro w'
               go_simp
               with_reducible rfl
              rotate_left
              ·simp only [Act.put, sT, s0, s1, i64_w, i32_w]
               rfl
              refine pure_ (i := 9) (N := some 97) (v := ?_) (a' := ?_) #[true, true, true, true, true, true, true, true, true, true, false, false, false, false, false, false, false] rfl rfl (any_of HT_.out (by kernel_rfl)) (fun _ _ _ h => h) (Or.inl ⟨by rfl, ?_⟩) ?_ ?_
              rotate_left
              ·intro w'
               go_simp
               with_reducible rfl
              rotate_left
              ·simp only [Act.put, sT, s0, s1, i64_w, i32_w]
               rfl
              refine pure_ (i := 10) (N := some 98) (v := ?_) (a' := ?_) #[true, true, true, true, true, true, true, true, true, true, true, false, false, false, false, false, false] rfl rfl (any_of HT_.out (by kernel_rfl)) (fun _ _ _ h => h) (Or.inl ⟨by rfl, ?_⟩) ?_ ?_
              rotate_left
              ·intro w'
               go_simp
               with_reducible rfl
              rotate_left
              ·simp only [Act.put, sT, s0, s1, i64_w, i32_w]
               rfl
              refine pure_ (i := 11) (N := some 99) (v := ?_) (a' := ?_) #[true, true, true, true, true, true, true, true, true, true, true, true, false, false, false, false, false] rfl rfl (any_of HT_.out (by kernel_rfl)) (fun _ _ _ h => h) (Or.inl ⟨by rfl, ?_⟩) ?_ ?_
              rotate_left
              ·intro w'
               go_simp
               with_reducible rfl
              rotate_left
              ·simp only [Act.put, sT, s0, s1, i64_w, i32_w]
               rfl
              refine take_ (i := 12) (N := some 100) (v := ?_) (a' := ?_) #[true, true, true, true, true, true, true, true, true, true, true, true, true, false, false, false, false] rfl rfl (take_ofW HT_.out HW_.out (by kernel_rfl)) (fun _ _ _ h => h) (Or.inl ⟨by rfl, ?_⟩) hHeld ?_ ?_
              rotate_left
              ·rintro w' ⟨s0, s1, s2, s3⟩
               go_simp
               with_reducible rfl
              rotate_left
              ·simp only [Act.put, sT, s0, s1, i64_w, i32_w]
               rfl
              refine take_ (i := 13) (N := some 101) (v := ?_) (a' := ?_) #[true, true, true, true, true, true, true, true, true, true, true, true, true, true, false, false, false] rfl rfl (take_ofW HT_.out HW_.out (by kernel_rfl)) (fun _ _ _ h => h) (Or.inl ⟨by rfl, ?_⟩) hHeld ?_ ?_
              rotate_left
              ·rintro w' ⟨s0, s1, s2, s3⟩
               go_simp
               with_reducible rfl
              rotate_left
              ·simp only [Act.put, sT, s0, s1, i64_w, i32_w]
               rfl
              refine one_ (i := 14) (N := some 102) #[true, true, true, true, true, true, true, true, true, true, true, true, true, true, true, false, false] rfl rfl (one_of HT_.out (by kernel_rfl)) (by decide) (fun K hK => ?_)
              refine goes_ Try.func12 (by kernel_rfl) rfl #[.agg #[.int .u16 ((rd_T25 t457 (ji49)).f0), .slice A460_1 ((rd_T25 t457 (ji49)).f1).length c460_1], .agg #[.int .u16 a0_0, .slice A0_1 l0_1.length c0_1]] (by rfl) rfl rfl (by (try simp only [List.map_toArray, List.map_cons, List.map_nil]); first | done | (simp only [hji49]; rfl) | rfl | (simp only [List.length_drop, List.length_take]; rfl)) ?_
              with_reducible refine (portreeveref08_Same.calls kj20 ((rd_T25 t457 (ji49)).f0) _ _ ((rd_T25 t457 (ji49)).f1) a0_0 _ _ l0_1 t461 _ ?side1 ?side2 ?side3 ?side4 A52.out).mono ?_
              (case side1 => repeat (first | exact (by repeat (first | (with_reducible exact HR460_1.out) | (with_reducible refine Kd.C_alloc ?_ _) | (with_reducible refine Kd.C_drewN ?_ _) | (with_reducible refine Kd.C_drew ?_) | exact HR460_1.out)) | (with_reducible refine Kd.C_alloc ?_ _) | (with_reducible refine Kd.C_drewN ?_ _) | (with_reducible refine Kd.C_drew ?_)))
              (case side2 => exact HC460_1.out)
              (case side3 => repeat (first | exact (Kd.C_below HR0_1.out HB.out) | (with_reducible refine Kd.C_alloc ?_ _) | (with_reducible refine Kd.C_drewN ?_ _) | (with_reducible refine Kd.C_drew ?_)))
              (case side4 => exact HC0_1.out)
              rintro e w62 ⟨rfl, hb⟩
              have HS2_ := (hb.cell (World.block_lt_of_cell? _ _ (hHeld.2.2.1))).trans (hHeld.2.2.1)
              have HS3_ := (hb.cell (World.block_lt_of_cell? _ _ (hHeld.2.2.2))).trans (hHeld.2.2.2)
              refine ⟨_, rfl, ?_⟩
              have n0_ := Aside0.mk (Kd.R_below (zR HO_8.out) hb)
              have n1_ := Aside0.mk (Kd.V_below (zV HO_447001.out) hb)
              have n2_ := Aside0.mk (Kd.R_below (zR HO456.out) hb)
              have n3_ := Aside0.mk (Kd.N_below (zN HO459.out) hb)
              have n4_ := Aside0.mk (Kd.V_below (zV HL460_1.out) hb)
              have n5_ := Aside0.mk (blk_below (g := gb429) (o := .cells #[.int .u16 a0_0, .slice A0_1 l0_1.length c0_1, .int .u32 a0_2, .bool a0_3, .slice A0_4 l0_4.length c0_4] 46 (0, 0)) (zB BK429.out) hb)
              have n6_ := Aside0.mk (blk_below (g := gb430) (o := .cells #[.int .u16 a0_0, .slice A0_1 l0_1.length c0_1] 25 (0, 0)) (zB BK430.out) hb)
              have n7_ := Aside0.mk (blk_below (g := gb446) (o := .cells #[.int .u16 t441, .slice Ao33 t442.length co33] 25 (0, 0)) (zB BK446.out) hb)
              have n8_ := Aside0.mk (Kd.C_below (by repeat (first | (with_reducible exact HR460_1.out) | (with_reducible refine Kd.C_alloc ?_ _) | (with_reducible refine Kd.C_drewN ?_ _) | (with_reducible refine Kd.C_drew ?_) | exact HR460_1.out)) hb)
              have n9_ := Aside0.mk (below_step (by repeat (first | (with_reducible first | exact HB.out | apply pA | apply pN | apply pD | refine pS ?_ GE429.out | refine pS ?_ GE430.out | refine pS ?_ GE446.out) | exact HB.out)) hb)
              clear HO_8
              clear HO_447001
              clear HO456
              clear HO459
              clear HL460_1
              clear BK429
              clear BK430
              clear BK446
              clear HR460_1
              clear HB
              have HO_8 := n0_
              have HO_447001 := n1_
              have HO456 := n2_
              have HO459 := n3_
              have HL460_1 := n4_
              have BK429 := n5_
              have BK430 := n6_
              have BK446 := n7_
              have HR460_1 := n8_
              have HB := n9_
              clear n0_ n1_ n2_ n3_ n4_ n5_ n6_ n7_ n8_ n9_
              (try clear hb)
              (try clear hb2)
              (try clear hk)
              (try clear hi)
              refine hK.out _ _ ⟨(blk_cell BK430.out 0).trans rfl, (blk_cell BK430.out 1).trans rfl, HS2_, HS3_⟩ (fun hHeld => ?_)
              clear hK K
              refine norm_ (a' := ?_) ?_ ?_
              rotate_left
              ·show Act.put _ (some 102) _ = _
               simp only [Act.put, sT, s0, s1, i64_w, i32_w]
               rfl
              refine pure_ (i := 15) (N := some 103) (v := ?_) (a' := ?_) #[true, true, true, true, true, true, true, true, true, true, true, true, true, true, true, true, false] rfl rfl (any_of HT_.out (by kernel_rfl)) (fun _ _ _ h => h) (Or.inl ⟨by rfl, ?_⟩) ?_ ?_
              rotate_left
              ·intro w'
               go_simp
               with_reducible rfl
              rotate_left
              ·simp only [Act.put, sT, s0, s1, i64_w, i32_w]
               rfl
              refine pure_ (i := 16) (N := some 2) (v := ?_) (a' := ?_) #[true, true, true, true, true, true, true, true, true, true, true, true, true, true, true, true, true] rfl rfl (any_of HT_.out (by kernel_rfl)) (fun _ _ _ h => h) (Or.inl ⟨by rfl, ?_⟩) ?_ ?_
              rotate_left
              ·intro w'
               go_simp
               with_reducible rfl
              rotate_left
              ·simp only [Act.put, sT, s0, s1, i64_w, i32_w]
               rfl
              refine done_ (done_of HT_.out (by kernel_rfl)) ?_
              try go_wp2
              go_ret
              exact ⟨by first | rfl | (simp [errW_none, errW_some] <;> rfl) | (simp only [← hji49]; first | rfl | (simp [errW_none, errW_some] <;> rfl)) | (simp [*, errW_none, errW_some] <;> rfl), by repeat (first | (with_reducible first | exact HB.out | apply pA | apply pN | apply pD | refine pS ?_ GE429.out | refine pS ?_ GE430.out | refine pS ?_ GE446.out) | exact HB.out)⟩
             ·rw [if_neg c51] at H
              exact absurd H (by simp)
            ·rw [if_neg c50] at H
             exact absurd H (by simp)
           ·rw [if_neg c48] at H
            have c48b0 : decide (1 ≤ (t457.length : Int)) = false := decide_eq_false c48
            have c48b1 : decide (1 ≤ t457.length) = false := decide_eq_false (by omega)
            clear c48
            exact absurd ((Option.some.inj H).trans hlaw_.out) (by decide)
          ·replace c47 := Bool.eq_false_iff.mpr c47
           subst c47
           have H1 : (some false) = some r := by rw [if_neg (show ¬ (false = true) by decide)] at H; exact H
           clear H
           have H := H1
           clear H1
           exact absurd ((Option.some.inj H).trans hlaw_.out) (by decide)
         ·rw [if_neg c45] at H
          exact absurd H (by simp)
        ·rw [if_neg c44] at H
         exact absurd H (by simp)
    ·rw [if_neg c18] at H
     have c18b0 : (t435 == 0) = false := beq_eq_false_iff_ne.mpr c18
     have c18b1 : (t435 != 0) = true := bne_iff_ne.mpr c18
     by_cases c63 : t431 = true
     ·subst c63
      have H1 : (if t435 = 1 then ((frame_Proto.f a0_0).bind fun t436 => (if t436 = true then (some false) else (some ((t432.length : Int) == 0)))) else (some false)) = some r := by rw [if_pos rfl] at H; exact H
      clear H
      have H := H1
      clear H1
      by_cases c64 : t435 = 1
      ·rw [if_pos c64] at H
       have c64b0 : (t435 == 1) = true := beq_iff_eq.mpr c64
       have c64b1 : (t435 != 1) = false := bne_eq_false_iff_eq.mpr c64
       clear c64
       replace H := Option.bind_eq_some_iff.mp H
       obtain ⟨t436, A650, H⟩ := H
       replace H : (if t436 = true then (some false) else (some ((t432.length : Int) == 0))) = some r := H
       have A65 := Aside0.mk A650
       clear A650
       by_cases c66 : t436 = true
       ·subst c66
        have H1 : (some false) = some r := by rw [if_pos rfl] at H; exact H
        clear H
        have H := H1
        clear H1
        exact absurd ((Option.some.inj H).trans hlaw_.out) (by decide)
       ·replace c66 := Bool.eq_false_iff.mpr c66
        subst c66
        have H1 : (some ((t432.length : Int) == 0)) = some r := by rw [if_neg (show ¬ (false = true) by decide)] at H; exact H
        clear H
        have H := H1
        clear H1
        clear hlaw_
        obtain rfl := Option.some.inj H
        have hnb67 := NB430_429.out
        have hnc67 := NB429_430.out
        obtain ⟨hcz68_0, hcz68_1, hfz68_0, hfz68_1⟩ := bk2 BK430.out
        go_wp2_with (first | ((with_reducible refine gate_callee (f := 18) rfl ?_); refine goesL_ (some 38) rfl rfl Try.func18 (by kernel_rfl) rfl #[.agg #[.int .u16 a0_0, .slice A0_1 l0_1.length c0_1], .int .u32 a0_2, .bool a0_3] rfl (by (try simp only [List.map_toArray, List.map_cons, List.map_nil]); first | done | rfl | (simp only [List.length_drop, List.length_take]; rfl)) ?_; (with_reducible refine (frame_Send.calls kj2 a0_0 _ _ l0_1 a0_2 a0_3 t432 t435 _ ?side1 ?side2 A17.out).mono ?_); (case side1 => repeat (first | exact (Kd.C_below HR0_1.out HB.out) | (with_reducible refine Kd.C_alloc ?_ _) | (with_reducible refine Kd.C_drewN ?_ _) | (with_reducible refine Kd.C_drew ?_))); (case side2 => exact HC0_1.out); rintro e w69 ⟨v433, rfl, ho0, hb⟩; refine ⟨_, rfl, ?_⟩; have n0_ := Aside0.mk (Kd.R_lower ho0 (below_size (by repeat (first | (with_reducible first | exact HB.out | apply pA | apply pN | apply pD | refine pS ?_ GE429.out | refine pS ?_ GE430.out) | exact HB.out)))); have n1_ := Aside0.mk (blk_below (g := gb429) (o := .cells #[.int .u16 a0_0, .slice A0_1 l0_1.length c0_1, .int .u32 a0_2, .bool a0_3, .slice A0_4 l0_4.length c0_4] 46 (0, 0)) (zB BK429.out) hb); have n2_ := Aside0.mk (blk_below (g := gb430) (o := .cells #[.int .u16 a0_0, .slice A0_1 l0_1.length c0_1] 25 (0, 0)) (zB BK430.out) hb); have n3_ := Aside0.mk (below_step (by repeat (first | (with_reducible first | exact HB.out | apply pA | apply pN | apply pD | refine pS ?_ GE429.out | refine pS ?_ GE430.out) | exact HB.out)) hb); clear BK429; clear BK430; clear HB; have HO434 := n0_; have BK429 := n1_; have BK430 := n2_; have HB := n3_; clear n0_ n1_ n2_ n3_; (try clear hb); (try clear hb2); (try clear hk); (try clear hi); (try clear ho0); obtain ⟨hcz70_0, hcz70_1, hfz70_0, hfz70_1⟩ := bk2 BK430.out) | (go_at_call 13; (with_reducible refine (frame_Proto.calls a0_0 false _ A65.out).mono ?_); rintro e w' ⟨rfl, ⟨nd, rfl⟩⟩; obtain ⟨Ao71, co71, eo71⟩ := Kd.R_slice HO434.out; subst eo71))
        go_ret
        exact ⟨by first | rfl | (simp [errW_none, errW_some] <;> rfl) | (simp [*, errW_none, errW_some] <;> rfl), by repeat (first | (with_reducible first | exact HB.out | apply pA | apply pN | apply pD | refine pS ?_ GE429.out | refine pS ?_ GE430.out) | exact HB.out)⟩
      ·rw [if_neg c64] at H
       have c64b0 : (t435 == 1) = false := beq_eq_false_iff_ne.mpr c64
       have c64b1 : (t435 != 1) = true := bne_iff_ne.mpr c64
       exact absurd ((Option.some.inj H).trans hlaw_.out) (by decide)
     ·replace c63 := Bool.eq_false_iff.mpr c63
      subst c63
      have H1 : (some false) = some r := by rw [if_neg (show ¬ (false = true) by decide)] at H; exact H
      clear H
      have H := H1
      clear H1
      exact absurd ((Option.some.inj H).trans hlaw_.out) (by decide)

end Go.Proofs.Ytangahcilefelaa.Q

-- written by this session's own program (wip/tools/myprint.py), over the kit's print
import Derived.Test.YtocjadhpaecpaaaQx0
import Derived.Test.YtocjadhpaecpaaaQx7
import Derived.Test.YtocjadhpaecpaaaQx8
import Derived.Test.YtocjadhpaecpaaaQx14
namespace Go.Proofs.Ytocjadhpaecpaaa.Q
open Go.RowKit Go.Proofs.YtocjadhpaecpaaaW.PrintWords Go.Proofs.YtocjadhpaecpaaaW.PrintLast Go.Proofs.YtocjadhpaecpaaaW.PrintMore
open Go.Proofs.YtocjadhpaecpaaaV
attribute [local go_sem] max2_int min2_int max_two min_two max_three min_three max_four min_four   -- for this text's walks alone
set_option linter.unusedVariables false
set_option linter.unusedSimpArgs false

/-! ### portreevelaw16_GateKnown: function 7 -/
def portreevelaw16_GateKnown.j0 : Nat → ByteArray → Int → Bool → Bool → List (S41) → Bool → List (S41) → Bool → Option (Bool)
 | 0, _, _, _, _, _, _, _, _ => none
 | k + 1, x4, x6, x7, x8, x9, x10, x11, x50 => if x50 = true then (if x7 = true then (if x8 = true then (some false) else (if x10 = true then (some false) else (some ((wrap64 ((x9.length : Int) + (x11.length : Int))) == 0)))) else (some false)) else (if x7 = true then (if x8 = true then (if x10 = true then (some false) else (if (x11.length : Int) = 1 then (if 0 < (x11.length : Int) then (if ((rd_T41 x11 0).f0) = 4 then (if ((rd_T41 x11 0).f4).toList = x4.toList then (some (decide (((rd_T41 x11 0).f8) ≥ x6))) else (some false)) else (some false)) else (none)) else (some false))) else (some false)) else (some false))
def portreevelaw16_GateKnown.f (k : Nat) (a0_0 : Int) (l0_1 : List (S76)) (l0_2 : List (S72)) (l0_3 : List (S64)) (a0_4 : ByteArray) (a0_5 : Bool) (a0_6 : Int) : Option (Bool) := (portreevelaw16_shown.f k).bind fun t453 => ((portreevelaw16_may.f k a0_0 l0_1 l0_2 l0_3 a0_4 a0_6).bind fun t454 => (if t454 = true then ((gate_Verdict.f k a0_0 l0_1 l0_2 l0_3 a0_4 a0_5 true a0_6).bind fun bt455 => ((gate_Verdict.f k a0_0 l0_1 l0_2 l0_3 a0_4 a0_5 false a0_6).bind fun bt459 => (if a0_5 = true then ((gate_Locked.f a0_0 l0_1 l0_2 l0_3 a0_4 a0_6).bind fun t463 => (portreevelaw16_GateKnown.j0 k a0_4 a0_6 t453 bt455.1 bt455.2 bt459.1 bt459.2 t463)) else (portreevelaw16_GateKnown.j0 k a0_4 a0_6 t453 bt455.1 bt455.2 bt459.1 bt459.2 true)))) else (some t453)))
theorem portreevelaw16_GateKnown.mono_l : ∀ k, (∀ y0 y1 y2 y3 y4 y5 y6 y7, LeO (portreevelaw16_GateKnown.j0 k y0 y1 y2 y3 y4 y5 y6 y7) (portreevelaw16_GateKnown.j0 (k + 1) y0 y1 y2 y3 y4 y5 y6 y7))
 | 0 => fun _ _ _ _ _ _ _ _ r h => by simp [portreevelaw16_GateKnown.j0] at h
 | k + 1 => by
  have ih0 := portreevelaw16_GateKnown.mono_l k
  ·intro y0 y1 y2 y3 y4 y5 y6 y7
   unfold portreevelaw16_GateKnown.j0
   repeat' first
   | (with_reducible exact ih0 _ _ _ _ _ _ _ _)
   | (with_reducible exact gate_Verdict.mono _ _ _ _ _ _ _ _ _)
   | (with_reducible exact portreevelaw16_may.mono _ _ _ _ _ _ _)
   | (with_reducible exact portreevelaw16_shown.mono _)
   | (with_reducible exact LeO.refl _)
   | (with_reducible exact LeO.none _)
   | (with_reducible refine LeO.ite ?_ ?_)
   | (with_reducible refine LeO.bind ?_ (fun _ => ?_))
   | exact ih0 _ _ _ _ _ _ _ _
   | exact gate_Verdict.mono _ _ _ _ _ _ _ _ _
   | exact portreevelaw16_may.mono _ _ _ _ _ _ _
   | exact portreevelaw16_shown.mono _
   | exact LeO.none _
   | refine LeO.ite ?_ ?_
   | refine LeO.bind ?_ (fun _ => ?_)
theorem portreevelaw16_GateKnown.mono : ∀ a0 a1 a2 a3 a4 a5 a6 k, LeO (portreevelaw16_GateKnown.f k a0 a1 a2 a3 a4 a5 a6) (portreevelaw16_GateKnown.f (k + 1) a0 a1 a2 a3 a4 a5 a6) := by
 intro a0 a1 a2 a3 a4 a5 a6 k
 have ih0 := portreevelaw16_GateKnown.mono_l k
 unfold portreevelaw16_GateKnown.f
 repeat' first
   | (with_reducible exact ih0 _ _ _ _ _ _ _ _)
   | (with_reducible exact gate_Verdict.mono _ _ _ _ _ _ _ _ _)
   | (with_reducible exact portreevelaw16_may.mono _ _ _ _ _ _ _)
   | (with_reducible exact portreevelaw16_shown.mono _)
   | (with_reducible exact LeO.refl _)
   | (with_reducible exact LeO.none _)
   | (with_reducible refine LeO.ite ?_ ?_)
   | (with_reducible refine LeO.bind ?_ (fun _ => ?_))
   | exact ih0 _ _ _ _ _ _ _ _
   | exact gate_Verdict.mono _ _ _ _ _ _ _ _ _
   | exact portreevelaw16_may.mono _ _ _ _ _ _ _
   | exact portreevelaw16_shown.mono _
   | exact LeO.none _
   | refine LeO.ite ?_ ?_
   | refine LeO.bind ?_ (fun _ => ?_)
set_option maxHeartbeats 8000000 in
set_option maxRecDepth 100000 in
theorem portreevelaw16_GateKnown.calls (k : Nat) (a0_0 : Int) (A0_1 : Option Addr) (c0_1 : Nat) (l0_1 : List (S76)) (A0_2 : Option Addr) (c0_2 : Nat) (l0_2 : List (S72)) (A0_3 : Option Addr) (c0_3 : Nat) (l0_3 : List (S64)) (a0_4 : ByteArray) (a0_5 : Bool) (a0_6 : Int) (r : Bool) (w : World) (hlaw_ : Aside0 (r = true)) (hr0_1 : Kd.C k76 w A0_1 l0_1.length l0_1) (hc0_1 : l0_1.length ≤ c0_1) (hr0_2 : Kd.C k72 w A0_2 l0_2.length l0_2) (hc0_2 : l0_2.length ≤ c0_2) (hr0_3 : Kd.C k64 w A0_3 l0_3.length l0_3) (hc0_3 : l0_3.length ≤ c0_3) (h : portreevelaw16_GateKnown.f k a0_0 l0_1 l0_2 l0_3 a0_4 a0_5 a0_6 = some r) :
  Calls Try.prog 7 #[.agg #[.int .i64 a0_0, .slice A0_1 l0_1.length c0_1, .slice A0_2 l0_2.length c0_2, .slice A0_3 l0_3.length c0_3, .string a0_4, .bool a0_5, .int .i64 a0_6]] w fun e w' => e = .returned (.bool r) ∧ Below w.heap.size w w' := by
 have hu56 := Try.underlying56
 have hu26 := Try.underlying26
 have hu41 := Try.underlying41
 have HR0_1 := Aside0.mk hr0_1
 have HC0_1 := Aside0.mk hc0_1
 clear hr0_1 hc0_1
 have HR0_2 := Aside0.mk hr0_2
 have HC0_2 := Aside0.mk hc0_2
 clear hr0_2 hc0_2
 have HR0_3 := Aside0.mk hr0_3
 have HC0_3 := Aside0.mk hc0_3
 clear hr0_3 hc0_3
 have HB := Aside0.mk (Below.refl w.heap.size w)
 have H : ((portreevelaw16_shown.f k).bind fun t453 => ((portreevelaw16_may.f k a0_0 l0_1 l0_2 l0_3 a0_4 a0_6).bind fun t454 => (if t454 = true then ((gate_Verdict.f k a0_0 l0_1 l0_2 l0_3 a0_4 a0_5 true a0_6).bind fun bt455 => ((gate_Verdict.f k a0_0 l0_1 l0_2 l0_3 a0_4 a0_5 false a0_6).bind fun bt459 => (if a0_5 = true then ((gate_Locked.f a0_0 l0_1 l0_2 l0_3 a0_4 a0_6).bind fun t463 => (portreevelaw16_GateKnown.j0 k a0_4 a0_6 t453 bt455.1 bt455.2 bt459.1 bt459.2 t463)) else (portreevelaw16_GateKnown.j0 k a0_4 a0_6 t453 bt455.1 bt455.2 bt459.1 bt459.2 true)))) else (some t453)))) = some r := h
 clear h
 replace H := Option.bind_eq_some_iff.mp H
 obtain ⟨t453, A20, H⟩ := H
 replace H : ((portreevelaw16_may.f k a0_0 l0_1 l0_2 l0_3 a0_4 a0_6).bind fun t454 => (if t454 = true then ((gate_Verdict.f k a0_0 l0_1 l0_2 l0_3 a0_4 a0_5 true a0_6).bind fun bt455 => ((gate_Verdict.f k a0_0 l0_1 l0_2 l0_3 a0_4 a0_5 false a0_6).bind fun bt459 => (if a0_5 = true then ((gate_Locked.f a0_0 l0_1 l0_2 l0_3 a0_4 a0_6).bind fun t463 => (portreevelaw16_GateKnown.j0 k a0_4 a0_6 t453 bt455.1 bt455.2 bt459.1 bt459.2 t463)) else (portreevelaw16_GateKnown.j0 k a0_4 a0_6 t453 bt455.1 bt455.2 bt459.1 bt459.2 true)))) else (some t453))) = some r := H
 have A2 := Aside0.mk A20
 clear A20
 replace H := Option.bind_eq_some_iff.mp H
 obtain ⟨t454, A30, H⟩ := H
 replace H : (if t454 = true then ((gate_Verdict.f k a0_0 l0_1 l0_2 l0_3 a0_4 a0_5 true a0_6).bind fun bt455 => ((gate_Verdict.f k a0_0 l0_1 l0_2 l0_3 a0_4 a0_5 false a0_6).bind fun bt459 => (if a0_5 = true then ((gate_Locked.f a0_0 l0_1 l0_2 l0_3 a0_4 a0_6).bind fun t463 => (portreevelaw16_GateKnown.j0 k a0_4 a0_6 t453 bt455.1 bt455.2 bt459.1 bt459.2 t463)) else (portreevelaw16_GateKnown.j0 k a0_4 a0_6 t453 bt455.1 bt455.2 bt459.1 bt459.2 true)))) else (some t453)) = some r := H
 have A3 := Aside0.mk A30
 clear A30
 by_cases c4 : t454 = true
 ·subst c4
  have H1 : ((gate_Verdict.f k a0_0 l0_1 l0_2 l0_3 a0_4 a0_5 true a0_6).bind fun bt455 => ((gate_Verdict.f k a0_0 l0_1 l0_2 l0_3 a0_4 a0_5 false a0_6).bind fun bt459 => (if a0_5 = true then ((gate_Locked.f a0_0 l0_1 l0_2 l0_3 a0_4 a0_6).bind fun t463 => (portreevelaw16_GateKnown.j0 k a0_4 a0_6 t453 bt455.1 bt455.2 bt459.1 bt459.2 t463)) else (portreevelaw16_GateKnown.j0 k a0_4 a0_6 t453 bt455.1 bt455.2 bt459.1 bt459.2 true)))) = some r := by rw [if_pos rfl] at H; exact H
  clear H
  have H := H1
  clear H1
  replace H := Option.bind_eq_some_iff.mp H
  obtain ⟨⟨t455, t456⟩, A50, H⟩ := H
  replace H : ((gate_Verdict.f k a0_0 l0_1 l0_2 l0_3 a0_4 a0_5 false a0_6).bind fun bt459 => (if a0_5 = true then ((gate_Locked.f a0_0 l0_1 l0_2 l0_3 a0_4 a0_6).bind fun t463 => (portreevelaw16_GateKnown.j0 k a0_4 a0_6 t453 t455 t456 bt459.1 bt459.2 t463)) else (portreevelaw16_GateKnown.j0 k a0_4 a0_6 t453 t455 t456 bt459.1 bt459.2 true))) = some r := H
  have A5 := Aside0.mk A50
  clear A50
  replace H := Option.bind_eq_some_iff.mp H
  obtain ⟨⟨t459, t460⟩, A60, H⟩ := H
  replace H : (if a0_5 = true then ((gate_Locked.f a0_0 l0_1 l0_2 l0_3 a0_4 a0_6).bind fun t463 => (portreevelaw16_GateKnown.j0 k a0_4 a0_6 t453 t455 t456 t459 t460 t463)) else (portreevelaw16_GateKnown.j0 k a0_4 a0_6 t453 t455 t456 t459 t460 true)) = some r := H
  have A6 := Aside0.mk A60
  clear A60
  have HC7 := Aside0.mk H
  clear H
  go_enter Try.func7, Try.ntmps7
  go_upto_region 10 with (first | ((with_reducible refine gate_dst (N := 1) rfl ?_); (try (refine gate_guard (by rfl) ?_; dsimp only)); refine box_event ?hg (N := 1) ?hd (cs := #[.int .i64 a0_0, .slice A0_1 l0_1.length c0_1, .slice A0_2 l0_2.length c0_2, .slice A0_3 l0_3.length c0_3, .string a0_4, .bool a0_5, .int .i64 a0_6]) (t := 56) ?hr ?_; (case hd => rfl); (case hg => rfl); (case hr => first | (go_simp; done) | (go_simp; rfl)); intro gb451 hg w8 hbox hb; have n0_ := Aside0.mk (below_step (zH HB.out) hb); have n1_ := Aside0.mk (hbox); have n2_ := Aside0.mk ((by rw [hg]; exact (below_size (zH HB.out)) : w.heap.size ≤ gb451)); have n3_ := Aside0.mk ((by rw [hg]; exact (below_size (zH HB.out)) : w.heap.size ≤ gb451)); clear HB; have HB := n0_; have BK451 := n1_; have GW451 := n2_; have GE451 := n3_; clear n0_ n1_ n2_ n3_; clear hb hbox hg; obtain ⟨hcz9_0, hcz9_1, hcz9_2, hcz9_3, hcz9_4, hcz9_5, hcz9_6, hfz9_0, hfz9_1, hfz9_2, hfz9_3, hfz9_4, hfz9_5, hfz9_6⟩ := bk7 BK451.out) | ((with_reducible refine gate_dst (N := 3) rfl ?_); (try (refine gate_guard (by rfl) ?_; dsimp only)); refine box_event ?hg (N := 3) ?hd (cs := #[.int .i64 0, .slice none 0 0, .slice none 0 0, .slice none 0 0]) (t := 26) ?hr ?_; (case hd => rfl); (case hg => rfl); (case hr => first | (go_simp; done) | (go_simp; rfl)); intro gb452 hg w10 hbox hb; have n0_ := Aside0.mk (blk_below (g := gb451) (o := .cells #[.int .i64 a0_0, .slice A0_1 l0_1.length c0_1, .slice A0_2 l0_2.length c0_2, .slice A0_3 l0_3.length c0_3, .string a0_4, .bool a0_5, .int .i64 a0_6] 56 (0, 0)) (zB BK451.out) hb); have n1_ := Aside0.mk (below_step (by repeat (first | (with_reducible first | exact HB.out | apply pA | apply pN | apply pD | refine pS ?_ GE451.out) | exact HB.out)) hb); have n2_ := Aside0.mk (hbox); have n3_ := Aside0.mk ((by rw [hg]; exact (below_size (by repeat (first | (with_reducible first | exact HB.out | apply pA | apply pN | apply pD | refine pS ?_ GE451.out) | exact HB.out))) : w.heap.size ≤ gb452)); have n4_ := Aside0.mk ((by rw [hg]; exact (below_size (by repeat (first | (with_reducible first | exact HB.out | apply pA | apply pN | apply pD | refine pS ?_ GE451.out) | exact HB.out))) : w.heap.size ≤ gb452)); have n5_ := Aside0.mk ((by rw [hg]; exact Nat.ne_of_lt (blk_lt (g := gb451) (o := .cells #[.int .i64 a0_0, .slice A0_1 l0_1.length c0_1, .slice A0_2 l0_2.length c0_2, .slice A0_3 l0_3.length c0_3, .string a0_4, .bool a0_5, .int .i64 a0_6] 56 (0, 0)) (zB BK451.out)) : gb451 ≠ gb452)); have n6_ := Aside0.mk ((by rw [hg]; exact Nat.ne_of_gt (blk_lt (g := gb451) (o := .cells #[.int .i64 a0_0, .slice A0_1 l0_1.length c0_1, .slice A0_2 l0_2.length c0_2, .slice A0_3 l0_3.length c0_3, .string a0_4, .bool a0_5, .int .i64 a0_6] 56 (0, 0)) (zB BK451.out)) : gb452 ≠ gb451)); clear BK451; clear HB; have BK451 := n0_; have HB := n1_; have BK452 := n2_; have GW452 := n3_; have GE452 := n4_; have NB451_452 := n5_; have NB452_451 := n6_; clear n0_ n1_ n2_ n3_ n4_ n5_ n6_; clear hb hbox hg; have hnb11 := NB452_451.out; have hnc11 := NB451_452.out; obtain ⟨hcz12_0, hcz12_1, hcz12_2, hcz12_3, hfz12_0, hfz12_1, hfz12_2, hfz12_3⟩ := bk4 BK452.out; obtain ⟨hcz13_0, hcz13_1, hcz13_2, hcz13_3, hcz13_4, hcz13_5, hcz13_6, hfz13_0, hfz13_1, hfz13_2, hfz13_3, hfz13_4, hfz13_5, hfz13_6⟩ := bk7 BK451.out) | ((with_reducible refine gate_callee (f := 9) rfl ?_); refine goesL_ (some 20) rfl rfl Try.func9 (by kernel_rfl) rfl #[] rfl (by (try simp only [List.map_toArray, List.map_cons, List.map_nil]); first | done | rfl | (simp only [List.length_drop, List.length_take]; rfl)) ?_; (with_reducible refine (portreevelaw16_shown.calls k  t453 _ A2.out).mono ?_); rintro e w14 ⟨rfl, hb⟩; refine ⟨_, rfl, ?_⟩; have n0_ := Aside0.mk (blk_below (g := gb451) (o := .cells #[.int .i64 a0_0, .slice A0_1 l0_1.length c0_1, .slice A0_2 l0_2.length c0_2, .slice A0_3 l0_3.length c0_3, .string a0_4, .bool a0_5, .int .i64 a0_6] 56 (0, 0)) (by (with_reducible repeat (first | refine qN ?_ _ | refine qD ?_ | refine qA ?_ _)); refine blk_far ?_ NB451_452.out _; (with_reducible repeat (first | refine qN ?_ _ | refine qD ?_ | refine qA ?_ _)); refine blk_far ?_ NB451_452.out _; (with_reducible repeat (first | refine qN ?_ _ | refine qD ?_ | refine qA ?_ _)); refine blk_far ?_ NB451_452.out _; (with_reducible repeat (first | refine qN ?_ _ | refine qD ?_ | refine qA ?_ _)); refine blk_far ?_ NB451_452.out _; (with_reducible repeat (first | refine qN ?_ _ | refine qD ?_ | refine qA ?_ _)); exact BK451.out) hb); have n1_ := Aside0.mk (blk_below (g := gb452) (o := .cells #[.int .i64 a0_0, .slice A0_1 l0_1.length c0_1, .slice A0_2 l0_2.length c0_2, .slice A0_3 l0_3.length c0_3] 26 (0, 0)) (by (with_reducible repeat (first | refine qN ?_ _ | refine qD ?_ | refine qA ?_ _)); refine blk_put (cs := #[.int .i64 a0_0, .slice A0_1 l0_1.length c0_1, .slice A0_2 l0_2.length c0_2, .slice none 0 0]) ?_ 3 _ rfl; (with_reducible repeat (first | refine qN ?_ _ | refine qD ?_ | refine qA ?_ _)); refine blk_put (cs := #[.int .i64 a0_0, .slice A0_1 l0_1.length c0_1, .slice none 0 0, .slice none 0 0]) ?_ 2 _ rfl; (with_reducible repeat (first | refine qN ?_ _ | refine qD ?_ | refine qA ?_ _)); refine blk_put (cs := #[.int .i64 a0_0, .slice none 0 0, .slice none 0 0, .slice none 0 0]) ?_ 1 _ rfl; (with_reducible repeat (first | refine qN ?_ _ | refine qD ?_ | refine qA ?_ _)); refine blk_put (cs := #[.int .i64 0, .slice none 0 0, .slice none 0 0, .slice none 0 0]) ?_ 0 _ rfl; (with_reducible repeat (first | refine qN ?_ _ | refine qD ?_ | refine qA ?_ _)); exact BK452.out) hb); have n2_ := Aside0.mk (below_step (by repeat (first | (with_reducible first | exact HB.out | apply pA | apply pN | apply pD | refine pS ?_ GE451.out | refine pS ?_ GE452.out) | exact HB.out)) hb); clear BK451; clear BK452; clear HB; have BK451 := n0_; have BK452 := n1_; have HB := n2_; clear n0_ n1_ n2_; (try clear hb); (try clear hb2); (try clear hk); (try clear hi); obtain ⟨hcz15_0, hcz15_1, hcz15_2, hcz15_3, hfz15_0, hfz15_1, hfz15_2, hfz15_3⟩ := bk4 BK452.out) | ((with_reducible refine gate_callee (f := 10) rfl ?_); refine goesL_ (some 24) rfl rfl Try.func10 (by kernel_rfl) rfl #[.agg #[.int .i64 a0_0, .slice A0_1 l0_1.length c0_1, .slice A0_2 l0_2.length c0_2, .slice A0_3 l0_3.length c0_3], .string a0_4, .int .i64 a0_6] rfl (by (try simp only [List.map_toArray, List.map_cons, List.map_nil]); first | done | rfl | (simp only [List.length_drop, List.length_take]; rfl)) ?_; (with_reducible refine (portreevelaw16_may.calls k a0_0 _ _ l0_1 _ _ l0_2 _ _ l0_3 a0_4 a0_6 true _ ?side1 ?side2 ?side3 ?side4 ?side5 ?side6 A3.out).mono ?_); (case side1 => repeat (first | exact (Kd.C_below HR0_1.out HB.out) | (with_reducible refine Kd.C_alloc ?_ _) | (with_reducible refine Kd.C_drewN ?_ _) | (with_reducible refine Kd.C_drew ?_))); (case side2 => exact HC0_1.out); (case side3 => repeat (first | exact (Kd.C_below HR0_2.out HB.out) | (with_reducible refine Kd.C_alloc ?_ _) | (with_reducible refine Kd.C_drewN ?_ _) | (with_reducible refine Kd.C_drew ?_))); (case side4 => exact HC0_2.out); (case side5 => repeat (first | exact (Kd.C_below HR0_3.out HB.out) | (with_reducible refine Kd.C_alloc ?_ _) | (with_reducible refine Kd.C_drewN ?_ _) | (with_reducible refine Kd.C_drew ?_))); (case side6 => exact HC0_3.out); rintro e w16 ⟨rfl, hb⟩; refine ⟨_, rfl, ?_⟩; have n0_ := Aside0.mk (blk_below (g := gb451) (o := .cells #[.int .i64 a0_0, .slice A0_1 l0_1.length c0_1, .slice A0_2 l0_2.length c0_2, .slice A0_3 l0_3.length c0_3, .string a0_4, .bool a0_5, .int .i64 a0_6] 56 (0, 0)) (zB BK451.out) hb); have n1_ := Aside0.mk (blk_below (g := gb452) (o := .cells #[.int .i64 a0_0, .slice A0_1 l0_1.length c0_1, .slice A0_2 l0_2.length c0_2, .slice A0_3 l0_3.length c0_3] 26 (0, 0)) (zB BK452.out) hb); have n2_ := Aside0.mk (below_step (by repeat (first | (with_reducible first | exact HB.out | apply pA | apply pN | apply pD | refine pS ?_ GE451.out | refine pS ?_ GE452.out) | exact HB.out)) hb); clear BK451; clear BK452; clear HB; have BK451 := n0_; have BK452 := n1_; have HB := n2_; clear n0_ n1_ n2_; (try clear hb); (try clear hb2); (try clear hk); (try clear hi); obtain ⟨hcz17_0, hcz17_1, hcz17_2, hcz17_3, hfz17_0, hfz17_1, hfz17_2, hfz17_3⟩ := bk4 BK452.out) | ((with_reducible refine gate_callee (f := 11) rfl ?_); refine goesL_ (some 32) rfl rfl Try.func11 (by kernel_rfl) rfl #[.agg #[.int .i64 a0_0, .slice A0_1 l0_1.length c0_1, .slice A0_2 l0_2.length c0_2, .slice A0_3 l0_3.length c0_3], .string a0_4, .bool a0_5, .bool true, .int .i64 a0_6] rfl (by (try simp only [List.map_toArray, List.map_cons, List.map_nil]); first | done | rfl | (simp only [List.length_drop, List.length_take]; rfl)) ?_; (with_reducible refine (gate_Verdict.calls k a0_0 _ _ l0_1 _ _ l0_2 _ _ l0_3 a0_4 a0_5 true a0_6 t455 t456 _ ?side1 ?side2 ?side3 ?side4 ?side5 ?side6 A5.out).mono ?_); (case side1 => repeat (first | exact (Kd.C_below HR0_1.out HB.out) | (with_reducible refine Kd.C_alloc ?_ _) | (with_reducible refine Kd.C_drewN ?_ _) | (with_reducible refine Kd.C_drew ?_))); (case side2 => exact HC0_1.out); (case side3 => repeat (first | exact (Kd.C_below HR0_2.out HB.out) | (with_reducible refine Kd.C_alloc ?_ _) | (with_reducible refine Kd.C_drewN ?_ _) | (with_reducible refine Kd.C_drew ?_))); (case side4 => exact HC0_2.out); (case side5 => repeat (first | exact (Kd.C_below HR0_3.out HB.out) | (with_reducible refine Kd.C_alloc ?_ _) | (with_reducible refine Kd.C_drewN ?_ _) | (with_reducible refine Kd.C_drew ?_))); (case side6 => exact HC0_3.out); rintro e w18 ⟨v457, rfl, ho0, hb⟩; refine ⟨_, rfl, ?_⟩; have n0_ := Aside0.mk (Kd.V_lower (Kd.V_mono (ok' := fun k_ => k_ ≠ gb451 ∧ k_ ≠ gb452) ho0 (fun k_ hk_ => ⟨(Kd.freshB (g := gb451) (o := .cells #[.int .i64 a0_0, .slice A0_1 l0_1.length c0_1, .slice A0_2 l0_2.length c0_2, .slice A0_3 l0_3.length c0_3, .string a0_4, .bool a0_5, .int .i64 a0_6] 56 (0, 0)) (zB BK451.out) k_ hk_), (Kd.freshB (g := gb452) (o := .cells #[.int .i64 a0_0, .slice A0_1 l0_1.length c0_1, .slice A0_2 l0_2.length c0_2, .slice A0_3 l0_3.length c0_3] 26 (0, 0)) (zB BK452.out) k_ hk_)⟩)) (below_size (by repeat (first | (with_reducible first | exact HB.out | apply pA | apply pN | apply pD | refine pS ?_ GE451.out | refine pS ?_ GE452.out) | exact HB.out)))); have n1_ := Aside0.mk (blk_below (g := gb451) (o := .cells #[.int .i64 a0_0, .slice A0_1 l0_1.length c0_1, .slice A0_2 l0_2.length c0_2, .slice A0_3 l0_3.length c0_3, .string a0_4, .bool a0_5, .int .i64 a0_6] 56 (0, 0)) (zB BK451.out) hb); have n2_ := Aside0.mk (blk_below (g := gb452) (o := .cells #[.int .i64 a0_0, .slice A0_1 l0_1.length c0_1, .slice A0_2 l0_2.length c0_2, .slice A0_3 l0_3.length c0_3] 26 (0, 0)) (zB BK452.out) hb); have n3_ := Aside0.mk (below_step (by repeat (first | (with_reducible first | exact HB.out | apply pA | apply pN | apply pD | refine pS ?_ GE451.out | refine pS ?_ GE452.out) | exact HB.out)) hb); clear BK451; clear BK452; clear HB; have HO458 := n0_; have BK451 := n1_; have BK452 := n2_; have HB := n3_; clear n0_ n1_ n2_ n3_; (try clear hb); (try clear hb2); (try clear hk); (try clear hi); (try clear ho0); obtain ⟨hcz19_0, hcz19_1, hcz19_2, hcz19_3, hfz19_0, hfz19_1, hfz19_2, hfz19_3⟩ := bk4 BK452.out) | ((with_reducible refine gate_callee (f := 11) rfl ?_); refine goesL_ (some 40) rfl rfl Try.func11 (by kernel_rfl) rfl #[.agg #[.int .i64 a0_0, .slice A0_1 l0_1.length c0_1, .slice A0_2 l0_2.length c0_2, .slice A0_3 l0_3.length c0_3], .string a0_4, .bool a0_5, .bool false, .int .i64 a0_6] rfl (by (try simp only [List.map_toArray, List.map_cons, List.map_nil]); first | done | rfl | (simp only [List.length_drop, List.length_take]; rfl)) ?_; (with_reducible refine (gate_Verdict.calls k a0_0 _ _ l0_1 _ _ l0_2 _ _ l0_3 a0_4 a0_5 false a0_6 t459 t460 _ ?side1 ?side2 ?side3 ?side4 ?side5 ?side6 A6.out).mono ?_); (case side1 => repeat (first | exact (Kd.C_below HR0_1.out HB.out) | (with_reducible refine Kd.C_alloc ?_ _) | (with_reducible refine Kd.C_drewN ?_ _) | (with_reducible refine Kd.C_drew ?_))); (case side2 => exact HC0_1.out); (case side3 => repeat (first | exact (Kd.C_below HR0_2.out HB.out) | (with_reducible refine Kd.C_alloc ?_ _) | (with_reducible refine Kd.C_drewN ?_ _) | (with_reducible refine Kd.C_drew ?_))); (case side4 => exact HC0_2.out); (case side5 => repeat (first | exact (Kd.C_below HR0_3.out HB.out) | (with_reducible refine Kd.C_alloc ?_ _) | (with_reducible refine Kd.C_drewN ?_ _) | (with_reducible refine Kd.C_drew ?_))); (case side6 => exact HC0_3.out); rintro e w20 ⟨v461, rfl, ho0, hb⟩; refine ⟨_, rfl, ?_⟩; have n0_ := Aside0.mk (Kd.V_below (zV HO458.out) hb); have n1_ := Aside0.mk (Kd.V_lower (Kd.V_mono (ok' := fun k_ => k_ ≠ gb451 ∧ k_ ≠ gb452) ho0 (fun k_ hk_ => ⟨(Kd.freshB (g := gb451) (o := .cells #[.int .i64 a0_0, .slice A0_1 l0_1.length c0_1, .slice A0_2 l0_2.length c0_2, .slice A0_3 l0_3.length c0_3, .string a0_4, .bool a0_5, .int .i64 a0_6] 56 (0, 0)) (zB BK451.out) k_ hk_), (Kd.freshB (g := gb452) (o := .cells #[.int .i64 a0_0, .slice A0_1 l0_1.length c0_1, .slice A0_2 l0_2.length c0_2, .slice A0_3 l0_3.length c0_3] 26 (0, 0)) (zB BK452.out) k_ hk_)⟩)) (below_size (by repeat (first | (with_reducible first | exact HB.out | apply pA | apply pN | apply pD | refine pS ?_ GE451.out | refine pS ?_ GE452.out) | exact HB.out)))); have n2_ := Aside0.mk (blk_below (g := gb451) (o := .cells #[.int .i64 a0_0, .slice A0_1 l0_1.length c0_1, .slice A0_2 l0_2.length c0_2, .slice A0_3 l0_3.length c0_3, .string a0_4, .bool a0_5, .int .i64 a0_6] 56 (0, 0)) (zB BK451.out) hb); have n3_ := Aside0.mk (blk_below (g := gb452) (o := .cells #[.int .i64 a0_0, .slice A0_1 l0_1.length c0_1, .slice A0_2 l0_2.length c0_2, .slice A0_3 l0_3.length c0_3] 26 (0, 0)) (zB BK452.out) hb); have n4_ := Aside0.mk (below_step (by repeat (first | (with_reducible first | exact HB.out | apply pA | apply pN | apply pD | refine pS ?_ GE451.out | refine pS ?_ GE452.out) | exact HB.out)) hb); clear HO458; clear BK451; clear BK452; clear HB; have HO458 := n0_; have HO462 := n1_; have BK451 := n2_; have BK452 := n3_; have HB := n4_; clear n0_ n1_ n2_ n3_ n4_; (try clear hb); (try clear hb2); (try clear hk); (try clear hi); (try clear ho0)))
  (try simp only [Act.put, sT, s0, s1])
  go_cut [50] (fun v50 wc => ∃ (kq : Nat) (x50_6 : Bool), v50 = .bool x50_6 ∧ Aside0 (portreevelaw16_GateKnown.j0 kq a0_4 a0_6 t453 t455 t456 t459 t460 x50_6 = some r) ∧ Aside0 (kq ≤ k) ∧ Aside0 (Kd.V k41 41 wc w.heap.size (fun k_ => k_ ≠ gb451 ∧ k_ ≠ gb452) v457 t456) ∧ Aside0 (Kd.V k41 41 wc w.heap.size (fun k_ => k_ ≠ gb451 ∧ k_ ≠ gb452) v461 t460) ∧ Aside0 (wc.heap[gb451]? = some (.cells #[.int .i64 a0_0, (.slice A0_1 l0_1.length c0_1), (.slice A0_2 l0_2.length c0_2), (.slice A0_3 l0_3.length c0_3), .string a0_4, .bool a0_5, .int .i64 a0_6] 56 (0, 0))) ∧ Aside0 (wc.heap[gb452]? = some (.cells #[.int .i64 a0_0, (.slice A0_1 l0_1.length c0_1), (.slice A0_2 l0_2.length c0_2), (.slice A0_3 l0_3.length c0_3)] 26 (0, 0))) ∧ Aside0 (Below w.heap.size w wc))
  case first =>
   have H := HC7.out
   clear HC7
   by_cases c21 : a0_5 = true
   ·subst c21
    have H1 : ((gate_Locked.f a0_0 l0_1 l0_2 l0_3 a0_4 a0_6).bind fun t463 => (portreevelaw16_GateKnown.j0 k a0_4 a0_6 t453 t455 t456 t459 t460 t463)) = some r := by rw [if_pos rfl] at H; exact H
    clear H
    have H := H1
    clear H1
    replace H := Option.bind_eq_some_iff.mp H
    obtain ⟨t463, A220, H⟩ := H
    replace H : (portreevelaw16_GateKnown.j0 k a0_4 a0_6 t453 t455 t456 t459 t460 t463) = some r := H
    have A22 := Aside0.mk A220
    clear A220
    have H' := Aside0.mk H
    clear H
    have hnb23 := NB452_451.out
    have hnc23 := NB451_452.out
    obtain ⟨hcz24_0, hcz24_1, hcz24_2, hcz24_3, hfz24_0, hfz24_1, hfz24_2, hfz24_3⟩ := bk4 BK452.out
    go_wp2_with (first | (go_at_call 13; (with_reducible refine (gate_Locked.calls a0_0 _ _ l0_1 _ _ l0_2 _ _ l0_3 a0_4 a0_6 t463 _ ?side1 ?side2 ?side3 ?side4 ?side5 ?side6 A22.out).mono ?_); (case side1 => repeat (first | exact (Kd.C_below HR0_1.out HB.out) | (with_reducible refine Kd.C_alloc ?_ _) | (with_reducible refine Kd.C_drewN ?_ _) | (with_reducible refine Kd.C_drew ?_))); (case side2 => exact HC0_1.out); (case side3 => repeat (first | exact (Kd.C_below HR0_2.out HB.out) | (with_reducible refine Kd.C_alloc ?_ _) | (with_reducible refine Kd.C_drewN ?_ _) | (with_reducible refine Kd.C_drew ?_))); (case side4 => exact HC0_2.out); (case side5 => repeat (first | exact (Kd.C_below HR0_3.out HB.out) | (with_reducible refine Kd.C_alloc ?_ _) | (with_reducible refine Kd.C_drewN ?_ _) | (with_reducible refine Kd.C_drew ?_))); (case side6 => exact HC0_3.out); rintro e w25 ⟨rfl, hb⟩; have n0_ := Aside0.mk (Kd.V_below (zV HO458.out) hb); have n1_ := Aside0.mk (Kd.V_below (zV HO462.out) hb); have n2_ := Aside0.mk (blk_below (g := gb451) (o := .cells #[.int .i64 a0_0, .slice A0_1 l0_1.length c0_1, .slice A0_2 l0_2.length c0_2, .slice A0_3 l0_3.length c0_3, .string a0_4, .bool true, .int .i64 a0_6] 56 (0, 0)) (zB BK451.out) hb); have n3_ := Aside0.mk (blk_below (g := gb452) (o := .cells #[.int .i64 a0_0, .slice A0_1 l0_1.length c0_1, .slice A0_2 l0_2.length c0_2, .slice A0_3 l0_3.length c0_3] 26 (0, 0)) (zB BK452.out) hb); have n4_ := Aside0.mk (below_step (by repeat (first | (with_reducible first | exact HB.out | apply pA | apply pN | apply pD | refine pS ?_ GE451.out | refine pS ?_ GE452.out) | exact HB.out)) hb); clear HO458; clear HO462; clear BK451; clear BK452; clear HB; have HO458 := n0_; have HO462 := n1_; have BK451 := n2_; have BK452 := n3_; have HB := n4_; clear n0_ n1_ n2_ n3_ n4_; (try clear hb); (try clear hb2); (try clear hk); (try clear hi)))
    go_meet
    case rel => exact ⟨_, (t463), (by first | rfl | (simp; done) | (simp [*]; done)), H', ⟨by first | omega | exact Nat.le_refl _⟩, ⟨zV HO458.out⟩, ⟨zV HO462.out⟩, ⟨zB BK451.out⟩, ⟨zB BK452.out⟩, ⟨by repeat (first | (with_reducible first | exact HB.out | apply pA | apply pN | apply pD | refine pS ?_ GE451.out | refine pS ?_ GE452.out) | exact HB.out)⟩⟩
   ·replace c21 := Bool.eq_false_iff.mpr c21
    subst c21
    have H1 : (portreevelaw16_GateKnown.j0 k a0_4 a0_6 t453 t455 t456 t459 t460 true) = some r := by rw [if_neg (show ¬ (false = true) by decide)] at H; exact H
    clear H
    have H := H1
    clear H1
    have H' := Aside0.mk H
    clear H
    go_wp2
    go_meet
    case rel => exact ⟨_, (true), (by first | rfl | (simp; done) | (simp [*]; done)), H', ⟨by first | omega | exact Nat.le_refl _⟩, ⟨zV HO458.out⟩, ⟨zV HO462.out⟩, ⟨zB BK451.out⟩, ⟨zB BK452.out⟩, ⟨by repeat (first | (with_reducible first | exact HB.out | apply pA | apply pN | apply pD | refine pS ?_ GE451.out | refine pS ?_ GE452.out) | exact HB.out)⟩⟩
  case rest =>
   clear HC7
   try clear c1
   try clear c2
   try clear p2
   try clear c4
   try clear c7
   try clear c9
   try clear c10
   try clear c11
   try clear c21
   try clear c23
   try clear hcz12_0
   try clear hcz12_1
   try clear hcz12_2
   try clear hcz12_3
   try clear hcz13_0
   try clear hcz13_1
   try clear hcz13_2
   try clear hcz13_3
   try clear hcz13_4
   try clear hcz13_5
   try clear hcz13_6
   try clear hcz15_0
   try clear hcz15_1
   try clear hcz15_2
   try clear hcz15_3
   try clear hcz17_0
   try clear hcz17_1
   try clear hcz17_2
   try clear hcz17_3
   try clear hcz19_0
   try clear hcz19_1
   try clear hcz19_2
   try clear hcz19_3
   try clear hcz24_0
   try clear hcz24_1
   try clear hcz24_2
   try clear hcz24_3
   try clear hcz9_0
   try clear hcz9_1
   try clear hcz9_2
   try clear hcz9_3
   try clear hcz9_4
   try clear hcz9_5
   try clear hcz9_6
   try clear hfz12_0
   try clear hfz12_1
   try clear hfz12_2
   try clear hfz12_3
   try clear hfz13_0
   try clear hfz13_1
   try clear hfz13_2
   try clear hfz13_3
   try clear hfz13_4
   try clear hfz13_5
   try clear hfz13_6
   try clear hfz15_0
   try clear hfz15_1
   try clear hfz15_2
   try clear hfz15_3
   try clear hfz17_0
   try clear hfz17_1
   try clear hfz17_2
   try clear hfz17_3
   try clear hfz19_0
   try clear hfz19_1
   try clear hfz19_2
   try clear hfz19_3
   try clear hfz24_0
   try clear hfz24_1
   try clear hfz24_2
   try clear hfz24_3
   try clear hfz9_0
   try clear hfz9_1
   try clear hfz9_2
   try clear hfz9_3
   try clear hfz9_4
   try clear hfz9_5
   try clear hfz9_6
   obtain ⟨kq, x50_6, rfl, HA, HJ6, HO_9, HO_11, BK451, BK452, HB⟩ := hcut
   cases kq with
   | zero => exact absurd HA.out (by simp [portreevelaw16_GateKnown.j0])
   | succ kj6 =>
    have H := HA.out
    clear HA
    simp only [portreevelaw16_GateKnown.j0] at H
    by_cases c26 : x50_6 = true
    ·subst c26
     have H1 : (if t453 = true then (if t455 = true then (some false) else (if t459 = true then (some false) else (some ((wrap64 ((t456.length : Int) + (t460.length : Int))) == 0)))) else (some false)) = some r := by rw [if_pos rfl] at H; exact H
     clear H
     have H := H1
     clear H1
     by_cases c27 : t453 = true
     ·subst c27
      have H1 : (if t455 = true then (some false) else (if t459 = true then (some false) else (some ((wrap64 ((t456.length : Int) + (t460.length : Int))) == 0)))) = some r := by rw [if_pos rfl] at H; exact H
      clear H
      have H := H1
      clear H1
      by_cases c28 : t455 = true
      ·subst c28
       have H1 : (some false) = some r := by rw [if_pos rfl] at H; exact H
       clear H
       have H := H1
       clear H1
       exact absurd ((Option.some.inj H).trans hlaw_.out) (by decide)
      ·replace c28 := Bool.eq_false_iff.mpr c28
       subst c28
       have H1 : (if t459 = true then (some false) else (some ((wrap64 ((t456.length : Int) + (t460.length : Int))) == 0))) = some r := by rw [if_neg (show ¬ (false = true) by decide)] at H; exact H
       clear H
       have H := H1
       clear H1
       by_cases c29 : t459 = true
       ·subst c29
        have H1 : (some false) = some r := by rw [if_pos rfl] at H; exact H
        clear H
        have H := H1
        clear H1
        exact absurd ((Option.some.inj H).trans hlaw_.out) (by decide)
       ·replace c29 := Bool.eq_false_iff.mpr c29
        subst c29
        have H1 : (some ((wrap64 ((t456.length : Int) + (t460.length : Int))) == 0)) = some r := by rw [if_neg (show ¬ (false = true) by decide)] at H; exact H
        clear H
        have H := H1
        clear H1
        clear hlaw_
        obtain rfl := Option.some.inj H
        obtain ⟨Ao30, co30, eo30⟩ := Kd.V_slice HO_9.out
        subst eo30
        obtain ⟨Ao31, co31, eo31⟩ := Kd.V_slice HO_11.out
        subst eo31
        go_wp2
        go_ret
        exact ⟨by first | rfl | (simp [errW_none, errW_some] <;> rfl) | (simp [*, errW_none, errW_some] <;> rfl), by repeat (first | (with_reducible first | exact HB.out | apply pA | apply pN | apply pD | refine pS ?_ GE451.out | refine pS ?_ GE452.out) | exact HB.out)⟩
     ·replace c27 := Bool.eq_false_iff.mpr c27
      subst c27
      have H1 : (some false) = some r := by rw [if_neg (show ¬ (false = true) by decide)] at H; exact H
      clear H
      have H := H1
      clear H1
      exact absurd ((Option.some.inj H).trans hlaw_.out) (by decide)
    ·replace c26 := Bool.eq_false_iff.mpr c26
     subst c26
     have H1 : (if t453 = true then (if t455 = true then (if t459 = true then (some false) else (if (t460.length : Int) = 1 then (if 0 < (t460.length : Int) then (if ((rd_T41 t460 0).f0) = 4 then (if ((rd_T41 t460 0).f4).toList = a0_4.toList then (some (decide (((rd_T41 t460 0).f8) ≥ a0_6))) else (some false)) else (some false)) else (none)) else (some false))) else (some false)) else (some false)) = some r := by rw [if_neg (show ¬ (false = true) by decide)] at H; exact H
     clear H
     have H := H1
     clear H1
     by_cases c32 : t453 = true
     ·subst c32
      have H1 : (if t455 = true then (if t459 = true then (some false) else (if (t460.length : Int) = 1 then (if 0 < (t460.length : Int) then (if ((rd_T41 t460 0).f0) = 4 then (if ((rd_T41 t460 0).f4).toList = a0_4.toList then (some (decide (((rd_T41 t460 0).f8) ≥ a0_6))) else (some false)) else (some false)) else (none)) else (some false))) else (some false)) = some r := by rw [if_pos rfl] at H; exact H
      clear H
      have H := H1
      clear H1
      by_cases c33 : t455 = true
      ·subst c33
       have H1 : (if t459 = true then (some false) else (if (t460.length : Int) = 1 then (if 0 < (t460.length : Int) then (if ((rd_T41 t460 0).f0) = 4 then (if ((rd_T41 t460 0).f4).toList = a0_4.toList then (some (decide (((rd_T41 t460 0).f8) ≥ a0_6))) else (some false)) else (some false)) else (none)) else (some false))) = some r := by rw [if_pos rfl] at H; exact H
       clear H
       have H := H1
       clear H1
       by_cases c34 : t459 = true
       ·subst c34
        have H1 : (some false) = some r := by rw [if_pos rfl] at H; exact H
        clear H
        have H := H1
        clear H1
        exact absurd ((Option.some.inj H).trans hlaw_.out) (by decide)
       ·replace c34 := Bool.eq_false_iff.mpr c34
        subst c34
        have H1 : (if (t460.length : Int) = 1 then (if 0 < (t460.length : Int) then (if ((rd_T41 t460 0).f0) = 4 then (if ((rd_T41 t460 0).f4).toList = a0_4.toList then (some (decide (((rd_T41 t460 0).f8) ≥ a0_6))) else (some false)) else (some false)) else (none)) else (some false)) = some r := by rw [if_neg (show ¬ (false = true) by decide)] at H; exact H
        clear H
        have H := H1
        clear H1
        by_cases c35 : (t460.length : Int) = 1
        ·rw [if_pos c35] at H
         have c35b0 : ((t460.length : Int) == 1) = true := beq_iff_eq.mpr c35
         have c35b1 : ((t460.length : Int) != 1) = false := bne_eq_false_iff_eq.mpr c35
         clear c35
         by_cases c36 : 0 < (t460.length : Int)
         ·rw [if_pos c36] at H
          have c36b0 : decide (0 < (t460.length : Int)) = true := decide_eq_true c36
          have c36b1 : decide (0 < t460.length) = true := decide_eq_true (by omega)
          clear c36
          by_cases c37 : ((rd_T41 t460 0).f0) = 4
          ·rw [if_pos c37] at H
           have c37b0 : (((rd_T41 t460 0).f0) == 4) = true := beq_iff_eq.mpr c37
           have c37b1 : (((rd_T41 t460 0).f0) != 4) = false := bne_eq_false_iff_eq.mpr c37
           clear c37
           by_cases c38 : ((rd_T41 t460 0).f4).toList = a0_4.toList
           ·rw [if_pos c38] at H
            have c38b0 : (((rd_T41 t460 0).f4).toList == a0_4.toList) = true := beq_iff_eq.mpr c38
            have c38b1 : (((rd_T41 t460 0).f4).toList != a0_4.toList) = false := bne_eq_false_iff_eq.mpr c38
            clear c38
            clear hlaw_
            obtain rfl := Option.some.inj H
            obtain ⟨Ao39, co39, eo39⟩ := Kd.V_slice HO_11.out
            subst eo39
            have p464 : 0 ≤ (0 : Int) := (by omega)
            have q464 : 0 < (t460.length : Int) := of_decide_eq_true (by first | (with_reducible assumption) | assumption)
            obtain ⟨ad464, e464, hx464_0, hx464_1, hx464_2, hx464_3, hx464_4, hx464_5, hx464_6, hx464_7, hx464_8⟩ := at_T41 (Kd.V_reads' HO_11.out).2.2 0 p464 q464
            cases e464
            have qi464 : (0 < t460.length) = True := eq_true (by omega)
            (try rw [show ((0 : Int)).toNat = 0 from rfl] at hx464_0)
            (try rw [show 0 * 9 = 0 from rfl] at hx464_0)
            (try rw [Addr.add_zero'] at hx464_0)
            (try rw [show ((0 : Int)).toNat = 0 from rfl] at hx464_1)
            (try rw [show 0 * 9 = 0 from rfl] at hx464_1)
            (try rw [Addr.add_zero'] at hx464_1)
            (try rw [show ((0 : Int)).toNat = 0 from rfl] at hx464_2)
            (try rw [show 0 * 9 = 0 from rfl] at hx464_2)
            (try rw [Addr.add_zero'] at hx464_2)
            (try rw [show ((0 : Int)).toNat = 0 from rfl] at hx464_3)
            (try rw [show 0 * 9 = 0 from rfl] at hx464_3)
            (try rw [Addr.add_zero'] at hx464_3)
            (try rw [show ((0 : Int)).toNat = 0 from rfl] at hx464_4)
            (try rw [show 0 * 9 = 0 from rfl] at hx464_4)
            (try rw [Addr.add_zero'] at hx464_4)
            (try rw [show ((0 : Int)).toNat = 0 from rfl] at hx464_5)
            (try rw [show 0 * 9 = 0 from rfl] at hx464_5)
            (try rw [Addr.add_zero'] at hx464_5)
            (try rw [show ((0 : Int)).toNat = 0 from rfl] at hx464_6)
            (try rw [show 0 * 9 = 0 from rfl] at hx464_6)
            (try rw [Addr.add_zero'] at hx464_6)
            (try rw [show ((0 : Int)).toNat = 0 from rfl] at hx464_7)
            (try rw [show 0 * 9 = 0 from rfl] at hx464_7)
            (try rw [Addr.add_zero'] at hx464_7)
            (try rw [show ((0 : Int)).toNat = 0 from rfl] at hx464_8)
            (try rw [show 0 * 9 = 0 from rfl] at hx464_8)
            (try rw [Addr.add_zero'] at hx464_8)
            replace p464 := eq_true p464
            replace q464 := eq_true q464
            have p465 : 0 ≤ (0 : Int) := (by omega)
            have q465 : 0 < (t460.length : Int) := of_decide_eq_true (by first | (with_reducible assumption) | assumption)
            obtain ⟨ad465, e465, hx465_0, hx465_1, hx465_2, hx465_3, hx465_4, hx465_5, hx465_6, hx465_7, hx465_8⟩ := at_T41 (Kd.V_reads' HO_11.out).2.2 0 p465 q465
            obtain rfl : ad464 = ad465 := (by injection e465)
            have qi465 : (0 < t460.length) = True := eq_true (by omega)
            (try rw [show ((0 : Int)).toNat = 0 from rfl] at hx465_0)
            (try rw [show 0 * 9 = 0 from rfl] at hx465_0)
            (try rw [Addr.add_zero'] at hx465_0)
            (try rw [show ((0 : Int)).toNat = 0 from rfl] at hx465_1)
            (try rw [show 0 * 9 = 0 from rfl] at hx465_1)
            (try rw [Addr.add_zero'] at hx465_1)
            (try rw [show ((0 : Int)).toNat = 0 from rfl] at hx465_2)
            (try rw [show 0 * 9 = 0 from rfl] at hx465_2)
            (try rw [Addr.add_zero'] at hx465_2)
            (try rw [show ((0 : Int)).toNat = 0 from rfl] at hx465_3)
            (try rw [show 0 * 9 = 0 from rfl] at hx465_3)
            (try rw [Addr.add_zero'] at hx465_3)
            (try rw [show ((0 : Int)).toNat = 0 from rfl] at hx465_4)
            (try rw [show 0 * 9 = 0 from rfl] at hx465_4)
            (try rw [Addr.add_zero'] at hx465_4)
            (try rw [show ((0 : Int)).toNat = 0 from rfl] at hx465_5)
            (try rw [show 0 * 9 = 0 from rfl] at hx465_5)
            (try rw [Addr.add_zero'] at hx465_5)
            (try rw [show ((0 : Int)).toNat = 0 from rfl] at hx465_6)
            (try rw [show 0 * 9 = 0 from rfl] at hx465_6)
            (try rw [Addr.add_zero'] at hx465_6)
            (try rw [show ((0 : Int)).toNat = 0 from rfl] at hx465_7)
            (try rw [show 0 * 9 = 0 from rfl] at hx465_7)
            (try rw [Addr.add_zero'] at hx465_7)
            (try rw [show ((0 : Int)).toNat = 0 from rfl] at hx465_8)
            (try rw [show 0 * 9 = 0 from rfl] at hx465_8)
            (try rw [Addr.add_zero'] at hx465_8)
            replace p465 := eq_true p465
            replace q465 := eq_true q465
            have p466 : 0 ≤ (0 : Int) := (by omega)
            have q466 : 0 < (t460.length : Int) := of_decide_eq_true (by first | (with_reducible assumption) | assumption)
            obtain ⟨ad466, e466, hx466_0, hx466_1, hx466_2, hx466_3, hx466_4, hx466_5, hx466_6, hx466_7, hx466_8⟩ := at_T41 (Kd.V_reads' HO_11.out).2.2 0 p466 q466
            obtain rfl : ad464 = ad466 := (by injection e466)
            have qi466 : (0 < t460.length) = True := eq_true (by omega)
            (try rw [show ((0 : Int)).toNat = 0 from rfl] at hx466_0)
            (try rw [show 0 * 9 = 0 from rfl] at hx466_0)
            (try rw [Addr.add_zero'] at hx466_0)
            (try rw [show ((0 : Int)).toNat = 0 from rfl] at hx466_1)
            (try rw [show 0 * 9 = 0 from rfl] at hx466_1)
            (try rw [Addr.add_zero'] at hx466_1)
            (try rw [show ((0 : Int)).toNat = 0 from rfl] at hx466_2)
            (try rw [show 0 * 9 = 0 from rfl] at hx466_2)
            (try rw [Addr.add_zero'] at hx466_2)
            (try rw [show ((0 : Int)).toNat = 0 from rfl] at hx466_3)
            (try rw [show 0 * 9 = 0 from rfl] at hx466_3)
            (try rw [Addr.add_zero'] at hx466_3)
            (try rw [show ((0 : Int)).toNat = 0 from rfl] at hx466_4)
            (try rw [show 0 * 9 = 0 from rfl] at hx466_4)
            (try rw [Addr.add_zero'] at hx466_4)
            (try rw [show ((0 : Int)).toNat = 0 from rfl] at hx466_5)
            (try rw [show 0 * 9 = 0 from rfl] at hx466_5)
            (try rw [Addr.add_zero'] at hx466_5)
            (try rw [show ((0 : Int)).toNat = 0 from rfl] at hx466_6)
            (try rw [show 0 * 9 = 0 from rfl] at hx466_6)
            (try rw [Addr.add_zero'] at hx466_6)
            (try rw [show ((0 : Int)).toNat = 0 from rfl] at hx466_7)
            (try rw [show 0 * 9 = 0 from rfl] at hx466_7)
            (try rw [Addr.add_zero'] at hx466_7)
            (try rw [show ((0 : Int)).toNat = 0 from rfl] at hx466_8)
            (try rw [show 0 * 9 = 0 from rfl] at hx466_8)
            (try rw [Addr.add_zero'] at hx466_8)
            replace p466 := eq_true p466
            replace q466 := eq_true q466
            go_wp2
            go_ret
            exact ⟨by first | rfl | (simp [errW_none, errW_some] <;> rfl) | (simp [*, errW_none, errW_some] <;> rfl), by repeat (first | (with_reducible first | exact HB.out | apply pA | apply pN | apply pD | refine pS ?_ GE451.out | refine pS ?_ GE452.out) | exact HB.out)⟩
           ·rw [if_neg c38] at H
            have c38b0 : (((rd_T41 t460 0).f4).toList == a0_4.toList) = false := beq_eq_false_iff_ne.mpr c38
            have c38b1 : (((rd_T41 t460 0).f4).toList != a0_4.toList) = true := bne_iff_ne.mpr c38
            exact absurd ((Option.some.inj H).trans hlaw_.out) (by decide)
          ·rw [if_neg c37] at H
           have c37b0 : (((rd_T41 t460 0).f0) == 4) = false := beq_eq_false_iff_ne.mpr c37
           have c37b1 : (((rd_T41 t460 0).f0) != 4) = true := bne_iff_ne.mpr c37
           exact absurd ((Option.some.inj H).trans hlaw_.out) (by decide)
         ·rw [if_neg c36] at H
          exact absurd H (by simp)
        ·rw [if_neg c35] at H
         have c35b0 : ((t460.length : Int) == 1) = false := beq_eq_false_iff_ne.mpr c35
         have c35b1 : ((t460.length : Int) != 1) = true := bne_iff_ne.mpr c35
         exact absurd ((Option.some.inj H).trans hlaw_.out) (by decide)
      ·replace c33 := Bool.eq_false_iff.mpr c33
       subst c33
       have H1 : (some false) = some r := by rw [if_neg (show ¬ (false = true) by decide)] at H; exact H
       clear H
       have H := H1
       clear H1
       exact absurd ((Option.some.inj H).trans hlaw_.out) (by decide)
     ·replace c32 := Bool.eq_false_iff.mpr c32
      subst c32
      have H1 : (some false) = some r := by rw [if_neg (show ¬ (false = true) by decide)] at H; exact H
      clear H
      have H := H1
      clear H1
      exact absurd ((Option.some.inj H).trans hlaw_.out) (by decide)
 ·replace c4 := Bool.eq_false_iff.mpr c4
  subst c4
  have H1 : (some t453) = some r := by rw [if_neg (show ¬ (false = true) by decide)] at H; exact H
  clear H
  have H := H1
  clear H1
  clear hlaw_
  obtain rfl := Option.some.inj H
  go_enter Try.func7, Try.ntmps7
  go_wp2_with (first | ((with_reducible refine gate_dst (N := 1) rfl ?_); (try (refine gate_guard (by rfl) ?_; dsimp only)); refine box_event ?hg (N := 1) ?hd (cs := #[.int .i64 a0_0, .slice A0_1 l0_1.length c0_1, .slice A0_2 l0_2.length c0_2, .slice A0_3 l0_3.length c0_3, .string a0_4, .bool a0_5, .int .i64 a0_6]) (t := 56) ?hr ?_; (case hd => rfl); (case hg => rfl); (case hr => first | (go_simp; done) | (go_simp; rfl)); intro gb451 hg w40 hbox hb; have n0_ := Aside0.mk (below_step (zH HB.out) hb); have n1_ := Aside0.mk (hbox); have n2_ := Aside0.mk ((by rw [hg]; exact (below_size (zH HB.out)) : w.heap.size ≤ gb451)); have n3_ := Aside0.mk ((by rw [hg]; exact (below_size (zH HB.out)) : w.heap.size ≤ gb451)); clear HB; have HB := n0_; have BK451 := n1_; have GW451 := n2_; have GE451 := n3_; clear n0_ n1_ n2_ n3_; clear hb hbox hg; obtain ⟨hcz41_0, hcz41_1, hcz41_2, hcz41_3, hcz41_4, hcz41_5, hcz41_6, hfz41_0, hfz41_1, hfz41_2, hfz41_3, hfz41_4, hfz41_5, hfz41_6⟩ := bk7 BK451.out) | ((with_reducible refine gate_dst (N := 3) rfl ?_); (try (refine gate_guard (by rfl) ?_; dsimp only)); refine box_event ?hg (N := 3) ?hd (cs := #[.int .i64 0, .slice none 0 0, .slice none 0 0, .slice none 0 0]) (t := 26) ?hr ?_; (case hd => rfl); (case hg => rfl); (case hr => first | (go_simp; done) | (go_simp; rfl)); intro gb452 hg w42 hbox hb; have n0_ := Aside0.mk (blk_below (g := gb451) (o := .cells #[.int .i64 a0_0, .slice A0_1 l0_1.length c0_1, .slice A0_2 l0_2.length c0_2, .slice A0_3 l0_3.length c0_3, .string a0_4, .bool a0_5, .int .i64 a0_6] 56 (0, 0)) (zB BK451.out) hb); have n1_ := Aside0.mk (below_step (by repeat (first | (with_reducible first | exact HB.out | apply pA | apply pN | apply pD | refine pS ?_ GE451.out) | exact HB.out)) hb); have n2_ := Aside0.mk (hbox); have n3_ := Aside0.mk ((by rw [hg]; exact (below_size (by repeat (first | (with_reducible first | exact HB.out | apply pA | apply pN | apply pD | refine pS ?_ GE451.out) | exact HB.out))) : w.heap.size ≤ gb452)); have n4_ := Aside0.mk ((by rw [hg]; exact (below_size (by repeat (first | (with_reducible first | exact HB.out | apply pA | apply pN | apply pD | refine pS ?_ GE451.out) | exact HB.out))) : w.heap.size ≤ gb452)); have n5_ := Aside0.mk ((by rw [hg]; exact Nat.ne_of_lt (blk_lt (g := gb451) (o := .cells #[.int .i64 a0_0, .slice A0_1 l0_1.length c0_1, .slice A0_2 l0_2.length c0_2, .slice A0_3 l0_3.length c0_3, .string a0_4, .bool a0_5, .int .i64 a0_6] 56 (0, 0)) (zB BK451.out)) : gb451 ≠ gb452)); have n6_ := Aside0.mk ((by rw [hg]; exact Nat.ne_of_gt (blk_lt (g := gb451) (o := .cells #[.int .i64 a0_0, .slice A0_1 l0_1.length c0_1, .slice A0_2 l0_2.length c0_2, .slice A0_3 l0_3.length c0_3, .string a0_4, .bool a0_5, .int .i64 a0_6] 56 (0, 0)) (zB BK451.out)) : gb452 ≠ gb451)); clear BK451; clear HB; have BK451 := n0_; have HB := n1_; have BK452 := n2_; have GW452 := n3_; have GE452 := n4_; have NB451_452 := n5_; have NB452_451 := n6_; clear n0_ n1_ n2_ n3_ n4_ n5_ n6_; clear hb hbox hg; have hnb43 := NB452_451.out; have hnc43 := NB451_452.out; obtain ⟨hcz44_0, hcz44_1, hcz44_2, hcz44_3, hfz44_0, hfz44_1, hfz44_2, hfz44_3⟩ := bk4 BK452.out; obtain ⟨hcz45_0, hcz45_1, hcz45_2, hcz45_3, hcz45_4, hcz45_5, hcz45_6, hfz45_0, hfz45_1, hfz45_2, hfz45_3, hfz45_4, hfz45_5, hfz45_6⟩ := bk7 BK451.out) | ((with_reducible refine gate_callee (f := 9) rfl ?_); refine goesL_ (some 20) rfl rfl Try.func9 (by kernel_rfl) rfl #[] rfl (by (try simp only [List.map_toArray, List.map_cons, List.map_nil]); first | done | rfl | (simp only [List.length_drop, List.length_take]; rfl)) ?_; (with_reducible refine (portreevelaw16_shown.calls k  t453 _ A2.out).mono ?_); rintro e w46 ⟨rfl, hb⟩; refine ⟨_, rfl, ?_⟩; have n0_ := Aside0.mk (blk_below (g := gb451) (o := .cells #[.int .i64 a0_0, .slice A0_1 l0_1.length c0_1, .slice A0_2 l0_2.length c0_2, .slice A0_3 l0_3.length c0_3, .string a0_4, .bool a0_5, .int .i64 a0_6] 56 (0, 0)) (by (with_reducible repeat (first | refine qN ?_ _ | refine qD ?_ | refine qA ?_ _)); refine blk_far ?_ NB451_452.out _; (with_reducible repeat (first | refine qN ?_ _ | refine qD ?_ | refine qA ?_ _)); refine blk_far ?_ NB451_452.out _; (with_reducible repeat (first | refine qN ?_ _ | refine qD ?_ | refine qA ?_ _)); refine blk_far ?_ NB451_452.out _; (with_reducible repeat (first | refine qN ?_ _ | refine qD ?_ | refine qA ?_ _)); refine blk_far ?_ NB451_452.out _; (with_reducible repeat (first | refine qN ?_ _ | refine qD ?_ | refine qA ?_ _)); exact BK451.out) hb); have n1_ := Aside0.mk (blk_below (g := gb452) (o := .cells #[.int .i64 a0_0, .slice A0_1 l0_1.length c0_1, .slice A0_2 l0_2.length c0_2, .slice A0_3 l0_3.length c0_3] 26 (0, 0)) (by (with_reducible repeat (first | refine qN ?_ _ | refine qD ?_ | refine qA ?_ _)); refine blk_put (cs := #[.int .i64 a0_0, .slice A0_1 l0_1.length c0_1, .slice A0_2 l0_2.length c0_2, .slice none 0 0]) ?_ 3 _ rfl; (with_reducible repeat (first | refine qN ?_ _ | refine qD ?_ | refine qA ?_ _)); refine blk_put (cs := #[.int .i64 a0_0, .slice A0_1 l0_1.length c0_1, .slice none 0 0, .slice none 0 0]) ?_ 2 _ rfl; (with_reducible repeat (first | refine qN ?_ _ | refine qD ?_ | refine qA ?_ _)); refine blk_put (cs := #[.int .i64 a0_0, .slice none 0 0, .slice none 0 0, .slice none 0 0]) ?_ 1 _ rfl; (with_reducible repeat (first | refine qN ?_ _ | refine qD ?_ | refine qA ?_ _)); refine blk_put (cs := #[.int .i64 0, .slice none 0 0, .slice none 0 0, .slice none 0 0]) ?_ 0 _ rfl; (with_reducible repeat (first | refine qN ?_ _ | refine qD ?_ | refine qA ?_ _)); exact BK452.out) hb); have n2_ := Aside0.mk (below_step (by repeat (first | (with_reducible first | exact HB.out | apply pA | apply pN | apply pD | refine pS ?_ GE451.out | refine pS ?_ GE452.out) | exact HB.out)) hb); clear BK451; clear BK452; clear HB; have BK451 := n0_; have BK452 := n1_; have HB := n2_; clear n0_ n1_ n2_; (try clear hb); (try clear hb2); (try clear hk); (try clear hi); obtain ⟨hcz47_0, hcz47_1, hcz47_2, hcz47_3, hfz47_0, hfz47_1, hfz47_2, hfz47_3⟩ := bk4 BK452.out) | ((with_reducible refine gate_callee (f := 10) rfl ?_); refine goesL_ (some 24) rfl rfl Try.func10 (by kernel_rfl) rfl #[.agg #[.int .i64 a0_0, .slice A0_1 l0_1.length c0_1, .slice A0_2 l0_2.length c0_2, .slice A0_3 l0_3.length c0_3], .string a0_4, .int .i64 a0_6] rfl (by (try simp only [List.map_toArray, List.map_cons, List.map_nil]); first | done | rfl | (simp only [List.length_drop, List.length_take]; rfl)) ?_; (with_reducible refine (portreevelaw16_may.calls k a0_0 _ _ l0_1 _ _ l0_2 _ _ l0_3 a0_4 a0_6 false _ ?side1 ?side2 ?side3 ?side4 ?side5 ?side6 A3.out).mono ?_); (case side1 => repeat (first | exact (Kd.C_below HR0_1.out HB.out) | (with_reducible refine Kd.C_alloc ?_ _) | (with_reducible refine Kd.C_drewN ?_ _) | (with_reducible refine Kd.C_drew ?_))); (case side2 => exact HC0_1.out); (case side3 => repeat (first | exact (Kd.C_below HR0_2.out HB.out) | (with_reducible refine Kd.C_alloc ?_ _) | (with_reducible refine Kd.C_drewN ?_ _) | (with_reducible refine Kd.C_drew ?_))); (case side4 => exact HC0_2.out); (case side5 => repeat (first | exact (Kd.C_below HR0_3.out HB.out) | (with_reducible refine Kd.C_alloc ?_ _) | (with_reducible refine Kd.C_drewN ?_ _) | (with_reducible refine Kd.C_drew ?_))); (case side6 => exact HC0_3.out); rintro e w48 ⟨rfl, hb⟩; refine ⟨_, rfl, ?_⟩; have n0_ := Aside0.mk (blk_below (g := gb451) (o := .cells #[.int .i64 a0_0, .slice A0_1 l0_1.length c0_1, .slice A0_2 l0_2.length c0_2, .slice A0_3 l0_3.length c0_3, .string a0_4, .bool a0_5, .int .i64 a0_6] 56 (0, 0)) (zB BK451.out) hb); have n1_ := Aside0.mk (blk_below (g := gb452) (o := .cells #[.int .i64 a0_0, .slice A0_1 l0_1.length c0_1, .slice A0_2 l0_2.length c0_2, .slice A0_3 l0_3.length c0_3] 26 (0, 0)) (zB BK452.out) hb); have n2_ := Aside0.mk (below_step (by repeat (first | (with_reducible first | exact HB.out | apply pA | apply pN | apply pD | refine pS ?_ GE451.out | refine pS ?_ GE452.out) | exact HB.out)) hb); clear BK451; clear BK452; clear HB; have BK451 := n0_; have BK452 := n1_; have HB := n2_; clear n0_ n1_ n2_; (try clear hb); (try clear hb2); (try clear hk); (try clear hi)))
  go_ret
  exact ⟨by first | rfl | (simp [errW_none, errW_some] <;> rfl) | (simp [*, errW_none, errW_some] <;> rfl), by repeat (first | (with_reducible first | exact HB.out | apply pA | apply pN | apply pD | refine pS ?_ GE451.out | refine pS ?_ GE452.out) | exact HB.out)⟩

end Go.Proofs.Ytocjadhpaecpaaa.Q

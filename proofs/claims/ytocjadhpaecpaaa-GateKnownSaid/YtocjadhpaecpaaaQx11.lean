-- written by this session's own program (wip/tools/myprint.py), over the kit's print
import Derived.Test.YtocjadhpaecpaaaQx0
import Derived.Test.YtocjadhpaecpaaaQx10
namespace Go.Proofs.Ytocjadhpaecpaaa.Q
open Go.RowKit Go.Proofs.YtocjadhpaecpaaaW.PrintWords Go.Proofs.YtocjadhpaecpaaaW.PrintLast Go.Proofs.YtocjadhpaecpaaaW.PrintMore
open Go.Proofs.YtocjadhpaecpaaaV
attribute [local go_sem] max2_int min2_int max_two min_two max_three min_three max_four min_four   -- for this text's walks alone
set_option linter.unusedVariables false
set_option linter.unusedSimpArgs false

/-! ### portreeveref04_line: function 27 -/
mutual
def portreeveref04_line.j0 : Nat → Int → Bool → Int → List (S76) → List (S72) → List (S64) → Int → Int → Int → Int → Int → Option (Bool)
 | 0, _, _, _, _, _, _, _, _, _, _, _ => none
 | k + 1, x6, x27, x167000, x167001, x167002, x167003, x169000, x169001, x169002, x169003, x169004 => if x27 = true then (some false) else (if x6 < 0 then (if x169000 = 1 then (if x169002 = 0 then (if x169003 = 0 then (some (x169004 == 0)) else (some false)) else (some false)) else (some false)) else (if 0 ≤ x6 then (if x6 < (x167002.length : Int) then (if ((rd_T72 x167002 x6).f0) = 3 then (portreeveref04_line.j1 k true x169000 x169001 x169002 x169003 x169004) else (if x169002 < ((rd_T72 x167002 x6).f2) then (portreeveref04_line.j1 k true x169000 x169001 x169002 x169003 x169004) else (portreeveref04_line.j1 k (decide (x169003 < ((rd_T72 x167002 x6).f3))) x169000 x169001 x169002 x169003 x169004))) else (none)) else (none)))
def portreeveref04_line.j1 : Nat → Bool → Int → Int → Int → Int → Int → Option (Bool)
 | 0, _, _, _, _, _, _ => none
 | k + 1, x69, x169000, x169001, x169002, x169003, x169004 => if x69 = true then (some false) else (if x169000 = 2 then (if x169004 = 0 then (some true) else (if x169000 = 3 then (if x169004 ≥ 0 then (some (decide (x169004 ≤ 255))) else (some false)) else (some false))) else (if x169000 = 3 then (if x169004 ≥ 0 then (some (decide (x169004 ≤ 255))) else (some false)) else (some false)))
end
def portreeveref04_line.f (k : Nat) (a0_0 : Int) (l0_1 : List (S76)) (l0_2 : List (S72)) (l0_3 : List (S64)) (a1 : Int) : Option (Bool) := if 0 ≤ a1 then (if a1 < (l0_2.length : Int) then ((portreeveref04_last.f k a0_0 l0_1 l0_2 l0_3 ((rd_T72 l0_2 a1).f1) a1).bind fun t169 => (if ((rd_T72 l0_2 a1).f1) < 0 then (portreeveref04_line.j0 k t169 true a0_0 l0_1 l0_2 l0_3 ((rd_T72 l0_2 a1).f0) ((rd_T72 l0_2 a1).f1) ((rd_T72 l0_2 a1).f2) ((rd_T72 l0_2 a1).f3) ((rd_T72 l0_2 a1).f4)) else (portreeveref04_line.j0 k t169 (decide (((rd_T72 l0_2 a1).f1) ≥ a0_0)) a0_0 l0_1 l0_2 l0_3 ((rd_T72 l0_2 a1).f0) ((rd_T72 l0_2 a1).f1) ((rd_T72 l0_2 a1).f2) ((rd_T72 l0_2 a1).f3) ((rd_T72 l0_2 a1).f4)))) else (none)) else (none)
theorem portreeveref04_line.mono_l : ∀ k, (∀ y0 y1 y2 y3 y4 y5 y6 y7 y8 y9 y10, LeO (portreeveref04_line.j0 k y0 y1 y2 y3 y4 y5 y6 y7 y8 y9 y10) (portreeveref04_line.j0 (k + 1) y0 y1 y2 y3 y4 y5 y6 y7 y8 y9 y10)) ∧ (∀ y0 y1 y2 y3 y4 y5, LeO (portreeveref04_line.j1 k y0 y1 y2 y3 y4 y5) (portreeveref04_line.j1 (k + 1) y0 y1 y2 y3 y4 y5))
 | 0 => ⟨fun _ _ _ _ _ _ _ _ _ _ _ r h => by simp [portreeveref04_line.j0] at h, fun _ _ _ _ _ _ r h => by simp [portreeveref04_line.j1] at h⟩
 | k + 1 => by
  obtain ⟨ih0, ih1⟩ := portreeveref04_line.mono_l k
  refine ⟨?_, ?_⟩
  ·intro y0 y1 y2 y3 y4 y5 y6 y7 y8 y9 y10
   unfold portreeveref04_line.j0
   repeat' first
   | (with_reducible exact ih0 _ _ _ _ _ _ _ _ _ _ _)
   | (with_reducible exact ih1 _ _ _ _ _ _)
   | (with_reducible exact portreeveref04_last.mono _ _ _ _ _ _ _)
   | (with_reducible exact LeO.refl _)
   | (with_reducible exact LeO.none _)
   | (with_reducible refine LeO.ite ?_ ?_)
   | (with_reducible refine LeO.bind ?_ (fun _ => ?_))
   | exact ih0 _ _ _ _ _ _ _ _ _ _ _
   | exact ih1 _ _ _ _ _ _
   | exact portreeveref04_last.mono _ _ _ _ _ _ _
   | exact LeO.none _
   | refine LeO.ite ?_ ?_
   | refine LeO.bind ?_ (fun _ => ?_)
  ·intro y0 y1 y2 y3 y4 y5
   unfold portreeveref04_line.j1
   repeat' first
   | (with_reducible exact ih0 _ _ _ _ _ _ _ _ _ _ _)
   | (with_reducible exact ih1 _ _ _ _ _ _)
   | (with_reducible exact portreeveref04_last.mono _ _ _ _ _ _ _)
   | (with_reducible exact LeO.refl _)
   | (with_reducible exact LeO.none _)
   | (with_reducible refine LeO.ite ?_ ?_)
   | (with_reducible refine LeO.bind ?_ (fun _ => ?_))
   | exact ih0 _ _ _ _ _ _ _ _ _ _ _
   | exact ih1 _ _ _ _ _ _
   | exact portreeveref04_last.mono _ _ _ _ _ _ _
   | exact LeO.none _
   | refine LeO.ite ?_ ?_
   | refine LeO.bind ?_ (fun _ => ?_)
theorem portreeveref04_line.mono : ∀ a0 a1 a2 a3 a4 k, LeO (portreeveref04_line.f k a0 a1 a2 a3 a4) (portreeveref04_line.f (k + 1) a0 a1 a2 a3 a4) := by
 intro a0 a1 a2 a3 a4 k
 obtain ⟨ih0, ih1⟩ := portreeveref04_line.mono_l k
 unfold portreeveref04_line.f
 repeat' first
   | (with_reducible exact ih0 _ _ _ _ _ _ _ _ _ _ _)
   | (with_reducible exact ih1 _ _ _ _ _ _)
   | (with_reducible exact portreeveref04_last.mono _ _ _ _ _ _ _)
   | (with_reducible exact LeO.refl _)
   | (with_reducible exact LeO.none _)
   | (with_reducible refine LeO.ite ?_ ?_)
   | (with_reducible refine LeO.bind ?_ (fun _ => ?_))
   | exact ih0 _ _ _ _ _ _ _ _ _ _ _
   | exact ih1 _ _ _ _ _ _
   | exact portreeveref04_last.mono _ _ _ _ _ _ _
   | exact LeO.none _
   | refine LeO.ite ?_ ?_
   | refine LeO.bind ?_ (fun _ => ?_)
set_option maxHeartbeats 8000000 in
set_option maxRecDepth 100000 in
theorem portreeveref04_line.calls (k : Nat) (a0_0 : Int) (A0_1 : Option Addr) (c0_1 : Nat) (l0_1 : List (S76)) (A0_2 : Option Addr) (c0_2 : Nat) (l0_2 : List (S72)) (A0_3 : Option Addr) (c0_3 : Nat) (l0_3 : List (S64)) (a1 : Int) (r : Bool) (w : World) (hr0_1 : Kd.C k76 w A0_1 l0_1.length l0_1) (hc0_1 : l0_1.length ≤ c0_1) (hr0_2 : Kd.C k72 w A0_2 l0_2.length l0_2) (hc0_2 : l0_2.length ≤ c0_2) (hr0_3 : Kd.C k64 w A0_3 l0_3.length l0_3) (hc0_3 : l0_3.length ≤ c0_3) (h : portreeveref04_line.f k a0_0 l0_1 l0_2 l0_3 a1 = some r) :
  Calls Try.prog 27 #[.agg #[.int .i64 a0_0, .slice A0_1 l0_1.length c0_1, .slice A0_2 l0_2.length c0_2, .slice A0_3 l0_3.length c0_3], .int .i64 a1] w fun e w' => e = .returned (.bool r) ∧ Below w.heap.size w w' := by
 have hu26 := Try.underlying26
 have hu72 := Try.underlying72
 have HR0_1 := Aside0.mk hr0_1
 have HC0_1 := Aside0.mk hc0_1
 clear hr0_1 hc0_1
 have HR0_2 := Aside0.mk hr0_2
 have HC0_2 := Aside0.mk hc0_2
 clear hr0_2 hc0_2
 have HR0_3 := Aside0.mk hr0_3
 have HC0_3 := Aside0.mk hc0_3
 clear hr0_3 hc0_3
 have HB := Aside0.mk (Below.refl w.heap.size w)
 have H : (if 0 ≤ a1 then (if a1 < (l0_2.length : Int) then ((portreeveref04_last.f k a0_0 l0_1 l0_2 l0_3 ((rd_T72 l0_2 a1).f1) a1).bind fun t169 => (if ((rd_T72 l0_2 a1).f1) < 0 then (portreeveref04_line.j0 k t169 true a0_0 l0_1 l0_2 l0_3 ((rd_T72 l0_2 a1).f0) ((rd_T72 l0_2 a1).f1) ((rd_T72 l0_2 a1).f2) ((rd_T72 l0_2 a1).f3) ((rd_T72 l0_2 a1).f4)) else (portreeveref04_line.j0 k t169 (decide (((rd_T72 l0_2 a1).f1) ≥ a0_0)) a0_0 l0_1 l0_2 l0_3 ((rd_T72 l0_2 a1).f0) ((rd_T72 l0_2 a1).f1) ((rd_T72 l0_2 a1).f2) ((rd_T72 l0_2 a1).f3) ((rd_T72 l0_2 a1).f4)))) else (none)) else (none)) = some r := h
 clear h
 by_cases c3 : 0 ≤ a1
 ·rw [if_pos c3] at H
  have c3b0 : decide (0 ≤ a1) = true := decide_eq_true c3
  clear c3
  by_cases c4 : a1 < (l0_2.length : Int)
  ·rw [if_pos c4] at H
   have c4b0 : decide (a1 < (l0_2.length : Int)) = true := decide_eq_true c4
   clear c4
   replace H := Option.bind_eq_some_iff.mp H
   obtain ⟨t169, A50, H⟩ := H
   replace H : (if ((rd_T72 l0_2 a1).f1) < 0 then (portreeveref04_line.j0 k t169 true a0_0 l0_1 l0_2 l0_3 ((rd_T72 l0_2 a1).f0) ((rd_T72 l0_2 a1).f1) ((rd_T72 l0_2 a1).f2) ((rd_T72 l0_2 a1).f3) ((rd_T72 l0_2 a1).f4)) else (portreeveref04_line.j0 k t169 (decide (((rd_T72 l0_2 a1).f1) ≥ a0_0)) a0_0 l0_1 l0_2 l0_3 ((rd_T72 l0_2 a1).f0) ((rd_T72 l0_2 a1).f1) ((rd_T72 l0_2 a1).f2) ((rd_T72 l0_2 a1).f3) ((rd_T72 l0_2 a1).f4))) = some r := H
   have A5 := Aside0.mk A50
   clear A50
   have HC6 := Aside0.mk H
   clear H
   go_enter Try.func27, Try.ntmps27
   go_upto_region 3 with (first | ((with_reducible refine gate_dst (N := 2) rfl ?_); refine box_event ?hg (N := 2) ?hd (cs := #[.int .i64 a0_0, .slice A0_1 l0_1.length c0_1, .slice A0_2 l0_2.length c0_2, .slice A0_3 l0_3.length c0_3]) (t := 26) ?hr ?_; (case hd => rfl); (case hg => rfl); (case hr => first | (go_simp; done) | (go_simp; rfl)); intro gb166 hg w7 hbox hb; have n0_ := Aside0.mk (below_step (zH HB.out) hb); have n1_ := Aside0.mk (hbox); have n2_ := Aside0.mk ((by rw [hg]; exact (below_size (zH HB.out)) : w.heap.size ≤ gb166)); have n3_ := Aside0.mk ((by rw [hg]; exact (below_size (zH HB.out)) : w.heap.size ≤ gb166)); clear HB; have HB := n0_; have BK166 := n1_; have GW166 := n2_; have GE166 := n3_; clear n0_ n1_ n2_ n3_; clear hb hbox hg; obtain ⟨hcz8_0, hcz8_1, hcz8_2, hcz8_3, hfz8_0, hfz8_1, hfz8_2, hfz8_3⟩ := bk4 BK166.out; have p167 : 0 ≤ (a1 : Int) := of_decide_eq_true (by first | (with_reducible assumption) | assumption); have q167 : a1 < (l0_2.length : Int) := of_decide_eq_true (by first | (with_reducible assumption) | assumption); obtain ⟨ad167, e167, hx167_0, hx167_1, hx167_2, hx167_3, hx167_4⟩ := at_T72 HR0_2.out a1 p167 q167; cases e167; replace hx167_0 := (HB.out.cell (World.block_lt_of_cell? w _ hx167_0)).trans hx167_0; replace hx167_1 := (HB.out.cell (World.block_lt_of_cell? w _ hx167_1)).trans hx167_1; replace hx167_2 := (HB.out.cell (World.block_lt_of_cell? w _ hx167_2)).trans hx167_2; replace hx167_3 := (HB.out.cell (World.block_lt_of_cell? w _ hx167_3)).trans hx167_3; replace hx167_4 := (HB.out.cell (World.block_lt_of_cell? w _ hx167_4)).trans hx167_4; replace p167 := eq_true p167; replace q167 := eq_true q167) | ((with_reducible refine gate_dst (N := 5) rfl ?_); refine box_event ?hg (N := 5) ?hd (cs := #[.int .i64 0, .int .i64 0, .int .u64 0, .int .u64 0, .int .i64 0]) (t := 72) ?hr ?_; (case hd => rfl); (case hg => rfl); (case hr => first | (go_simp; done) | (go_simp; rfl)); intro gb168 hg w9 hbox hb; have n0_ := Aside0.mk (blk_below (g := gb166) (o := .cells #[.int .i64 a0_0, .slice A0_1 l0_1.length c0_1, .slice (some ad167) l0_2.length c0_2, .slice A0_3 l0_3.length c0_3] 26 (0, 0)) (zB BK166.out) hb); have n1_ := Aside0.mk (below_step (by repeat (first | (with_reducible first | exact HB.out | apply pA | apply pN | apply pD | refine pS ?_ GE166.out) | exact HB.out)) hb); have n2_ := Aside0.mk (hbox); have n3_ := Aside0.mk ((by rw [hg]; exact (below_size (by repeat (first | (with_reducible first | exact HB.out | apply pA | apply pN | apply pD | refine pS ?_ GE166.out) | exact HB.out))) : w.heap.size ≤ gb168)); have n4_ := Aside0.mk ((by rw [hg]; exact (below_size (by repeat (first | (with_reducible first | exact HB.out | apply pA | apply pN | apply pD | refine pS ?_ GE166.out) | exact HB.out))) : w.heap.size ≤ gb168)); have n5_ := Aside0.mk ((by rw [hg]; exact Nat.ne_of_lt (blk_lt (g := gb166) (o := .cells #[.int .i64 a0_0, .slice A0_1 l0_1.length c0_1, .slice (some ad167) l0_2.length c0_2, .slice A0_3 l0_3.length c0_3] 26 (0, 0)) (zB BK166.out)) : gb166 ≠ gb168)); have n6_ := Aside0.mk ((by rw [hg]; exact Nat.ne_of_gt (blk_lt (g := gb166) (o := .cells #[.int .i64 a0_0, .slice A0_1 l0_1.length c0_1, .slice (some ad167) l0_2.length c0_2, .slice A0_3 l0_3.length c0_3] 26 (0, 0)) (zB BK166.out)) : gb168 ≠ gb166)); clear BK166; clear HB; have BK166 := n0_; have HB := n1_; have BK168 := n2_; have GW168 := n3_; have GE168 := n4_; have NB166_168 := n5_; have NB168_166 := n6_; clear n0_ n1_ n2_ n3_ n4_ n5_ n6_; clear hb hbox hg; have hnb10 := NB168_166.out; have hnc10 := NB166_168.out; obtain ⟨hcz11_0, hcz11_1, hcz11_2, hcz11_3, hcz11_4, hfz11_0, hfz11_1, hfz11_2, hfz11_3, hfz11_4⟩ := bk5 BK168.out; obtain ⟨hcz12_0, hcz12_1, hcz12_2, hcz12_3, hfz12_0, hfz12_1, hfz12_2, hfz12_3⟩ := bk4 BK166.out) | ((with_reducible refine gate_callee (f := 28) rfl ?_); refine goesL_ (some 17) rfl rfl Try.func28 (by kernel_rfl) rfl #[.agg #[.int .i64 a0_0, .slice A0_1 l0_1.length c0_1, .slice (some ad167) l0_2.length c0_2, .slice A0_3 l0_3.length c0_3], .int .i64 ((rd_T72 l0_2 a1).f1), .int .i64 a1] rfl (by (try simp only [List.map_toArray, List.map_cons, List.map_nil]); first | done | rfl | (simp only [List.length_drop, List.length_take]; rfl)) ?_; (with_reducible refine (portreeveref04_last.calls k a0_0 _ _ l0_1 _ _ l0_2 _ _ l0_3 ((rd_T72 l0_2 a1).f1) a1 t169 _ ?side1 ?side2 ?side3 ?side4 ?side5 ?side6 A5.out).mono ?_); (case side1 => exact Kd.C_below HR0_1.out (by repeat (first | (with_reducible first | exact HB.out | apply pA | apply pN | apply pD | refine pS ?_ GE166.out | refine pS ?_ GE168.out) | exact HB.out))); (case side2 => exact HC0_1.out); (case side3 => exact Kd.C_below HR0_2.out (by repeat (first | (with_reducible first | exact HB.out | apply pA | apply pN | apply pD | refine pS ?_ GE166.out | refine pS ?_ GE168.out) | exact HB.out))); (case side4 => exact HC0_2.out); (case side5 => exact Kd.C_below HR0_3.out (by repeat (first | (with_reducible first | exact HB.out | apply pA | apply pN | apply pD | refine pS ?_ GE166.out | refine pS ?_ GE168.out) | exact HB.out))); (case side6 => exact HC0_3.out); rintro e w13 ⟨rfl, hb⟩; refine ⟨_, rfl, ?_⟩; have n0_ := Aside0.mk (blk_below (g := gb166) (o := .cells #[.int .i64 a0_0, .slice A0_1 l0_1.length c0_1, .slice (some ad167) l0_2.length c0_2, .slice A0_3 l0_3.length c0_3] 26 (0, 0)) (by (with_reducible repeat (first | refine qN ?_ _ | refine qD ?_ | refine qA ?_ _)); refine blk_far ?_ NB166_168.out _; (with_reducible repeat (first | refine qN ?_ _ | refine qD ?_ | refine qA ?_ _)); refine blk_far ?_ NB166_168.out _; (with_reducible repeat (first | refine qN ?_ _ | refine qD ?_ | refine qA ?_ _)); refine blk_far ?_ NB166_168.out _; (with_reducible repeat (first | refine qN ?_ _ | refine qD ?_ | refine qA ?_ _)); refine blk_far ?_ NB166_168.out _; (with_reducible repeat (first | refine qN ?_ _ | refine qD ?_ | refine qA ?_ _)); refine blk_far ?_ NB166_168.out _; (with_reducible repeat (first | refine qN ?_ _ | refine qD ?_ | refine qA ?_ _)); exact BK166.out) hb); have n1_ := Aside0.mk (blk_below (g := gb168) (o := .cells #[.int .i64 ((rd_T72 l0_2 a1).f0), .int .i64 ((rd_T72 l0_2 a1).f1), .int .u64 ((rd_T72 l0_2 a1).f2), .int .u64 ((rd_T72 l0_2 a1).f3), .int .i64 ((rd_T72 l0_2 a1).f4)] 72 (0, 0)) (by (with_reducible repeat (first | refine qN ?_ _ | refine qD ?_ | refine qA ?_ _)); refine blk_put (cs := #[.int .i64 ((rd_T72 l0_2 a1).f0), .int .i64 ((rd_T72 l0_2 a1).f1), .int .u64 ((rd_T72 l0_2 a1).f2), .int .u64 ((rd_T72 l0_2 a1).f3), .int .i64 0]) ?_ 4 _ rfl; (with_reducible repeat (first | refine qN ?_ _ | refine qD ?_ | refine qA ?_ _)); refine blk_put (cs := #[.int .i64 ((rd_T72 l0_2 a1).f0), .int .i64 ((rd_T72 l0_2 a1).f1), .int .u64 ((rd_T72 l0_2 a1).f2), .int .u64 0, .int .i64 0]) ?_ 3 _ rfl; (with_reducible repeat (first | refine qN ?_ _ | refine qD ?_ | refine qA ?_ _)); refine blk_put (cs := #[.int .i64 ((rd_T72 l0_2 a1).f0), .int .i64 ((rd_T72 l0_2 a1).f1), .int .u64 0, .int .u64 0, .int .i64 0]) ?_ 2 _ rfl; (with_reducible repeat (first | refine qN ?_ _ | refine qD ?_ | refine qA ?_ _)); refine blk_put (cs := #[.int .i64 ((rd_T72 l0_2 a1).f0), .int .i64 0, .int .u64 0, .int .u64 0, .int .i64 0]) ?_ 1 _ rfl; (with_reducible repeat (first | refine qN ?_ _ | refine qD ?_ | refine qA ?_ _)); refine blk_put (cs := #[.int .i64 0, .int .i64 0, .int .u64 0, .int .u64 0, .int .i64 0]) ?_ 0 _ rfl; (with_reducible repeat (first | refine qN ?_ _ | refine qD ?_ | refine qA ?_ _)); exact BK168.out) hb); have n2_ := Aside0.mk (below_step (by repeat (first | (with_reducible first | exact HB.out | apply pA | apply pN | apply pD | refine pS ?_ GE166.out | refine pS ?_ GE168.out) | exact HB.out)) hb); clear BK166; clear BK168; clear HB; have BK166 := n0_; have BK168 := n1_; have HB := n2_; clear n0_ n1_ n2_; (try clear hb); (try clear hb2); (try clear hk); (try clear hi)))
   (try simp only [Act.put, sT, s0, s1])
   go_cut [27] (fun v27 wc => ∃ (kq : Nat) (x27_5 : Bool), v27 = .bool x27_5 ∧ Aside0 (portreeveref04_line.j0 kq t169 x27_5 a0_0 l0_1 l0_2 l0_3 ((rd_T72 l0_2 a1).f0) ((rd_T72 l0_2 a1).f1) ((rd_T72 l0_2 a1).f2) ((rd_T72 l0_2 a1).f3) ((rd_T72 l0_2 a1).f4) = some r) ∧ Aside0 (kq ≤ k) ∧ Aside0 (wc.heap[gb166]? = some (.cells #[.int .i64 a0_0, (.slice A0_1 l0_1.length c0_1), (.slice (some ad167) l0_2.length c0_2), (.slice A0_3 l0_3.length c0_3)] 26 (0, 0))) ∧ Aside0 (wc.heap[gb168]? = some (.cells #[.int .i64 ((rd_T72 l0_2 a1).f0), .int .i64 ((rd_T72 l0_2 a1).f1), .int .u64 ((rd_T72 l0_2 a1).f2), .int .u64 ((rd_T72 l0_2 a1).f3), .int .i64 ((rd_T72 l0_2 a1).f4)] 72 (0, 0))) ∧ Aside0 (Below w.heap.size w wc))
   case first =>
    have H := HC6.out
    clear HC6
    by_cases c14 : ((rd_T72 l0_2 a1).f1) < 0
    ·rw [if_pos c14] at H
     have c14b0 : decide (((rd_T72 l0_2 a1).f1) < 0) = true := decide_eq_true c14
     clear c14
     (first | rw [c14b0] | (simp only [i64_w, i32_w]; rw [c14b0]) | skip)
     have H' := Aside0.mk H
     clear H
     have hnb15 := NB168_166.out
     have hnc15 := NB166_168.out
     obtain ⟨hcz16_0, hcz16_1, hcz16_2, hcz16_3, hcz16_4, hfz16_0, hfz16_1, hfz16_2, hfz16_3, hfz16_4⟩ := bk5 BK168.out
     go_wp2
     go_meet
     case rel => exact ⟨_, (true), (by first | rfl | (simp; done) | (simp [*]; done)), H', ⟨by first | omega | exact Nat.le_refl _⟩, ⟨zB BK166.out⟩, ⟨zB BK168.out⟩, ⟨by repeat (first | (with_reducible first | exact HB.out | apply pA | apply pN | apply pD | refine pS ?_ GE166.out | refine pS ?_ GE168.out) | exact HB.out)⟩⟩
    ·rw [if_neg c14] at H
     have c14b0 : decide (((rd_T72 l0_2 a1).f1) < 0) = false := decide_eq_false c14
     clear c14
     (first | rw [c14b0] | (simp only [i64_w, i32_w]; rw [c14b0]) | skip)
     have H' := Aside0.mk H
     clear H
     have hnb17 := NB168_166.out
     have hnc17 := NB166_168.out
     obtain ⟨hcz18_0, hcz18_1, hcz18_2, hcz18_3, hcz18_4, hfz18_0, hfz18_1, hfz18_2, hfz18_3, hfz18_4⟩ := bk5 BK168.out
     obtain ⟨hcz19_0, hcz19_1, hcz19_2, hcz19_3, hfz19_0, hfz19_1, hfz19_2, hfz19_3⟩ := bk4 BK166.out
     go_wp2
     go_meet
     case rel => exact ⟨_, (decide (((rd_T72 l0_2 a1).f1) ≥ a0_0)), (by first | rfl | (simp; done) | (simp [*]; done)), H', ⟨by first | omega | exact Nat.le_refl _⟩, ⟨zB BK166.out⟩, ⟨zB BK168.out⟩, ⟨by repeat (first | (with_reducible first | exact HB.out | apply pA | apply pN | apply pD | refine pS ?_ GE166.out | refine pS ?_ GE168.out) | exact HB.out)⟩⟩
   case rest =>
    clear HC6
    try clear c1
    try clear p1
    try clear q1
    try clear hx1
    try clear c2
    try clear p2
    try clear c3
    try clear c3b0
    try clear c4
    try clear c4b0
    try clear c10
    try clear c14
    try clear c14b0
    try clear c15
    try clear p16
    try clear q16
    try clear hx16
    try clear c17
    try clear hcz11_0
    try clear hcz11_1
    try clear hcz11_2
    try clear hcz11_3
    try clear hcz11_4
    try clear hcz12_0
    try clear hcz12_1
    try clear hcz12_2
    try clear hcz12_3
    try clear hcz16_0
    try clear hcz16_1
    try clear hcz16_2
    try clear hcz16_3
    try clear hcz16_4
    try clear hcz18_0
    try clear hcz18_1
    try clear hcz18_2
    try clear hcz18_3
    try clear hcz18_4
    try clear hcz19_0
    try clear hcz19_1
    try clear hcz19_2
    try clear hcz19_3
    try clear hcz8_0
    try clear hcz8_1
    try clear hcz8_2
    try clear hcz8_3
    try clear hfz11_0
    try clear hfz11_1
    try clear hfz11_2
    try clear hfz11_3
    try clear hfz11_4
    try clear hfz12_0
    try clear hfz12_1
    try clear hfz12_2
    try clear hfz12_3
    try clear hfz16_0
    try clear hfz16_1
    try clear hfz16_2
    try clear hfz16_3
    try clear hfz16_4
    try clear hfz18_0
    try clear hfz18_1
    try clear hfz18_2
    try clear hfz18_3
    try clear hfz18_4
    try clear hfz19_0
    try clear hfz19_1
    try clear hfz19_2
    try clear hfz19_3
    try clear hfz8_0
    try clear hfz8_1
    try clear hfz8_2
    try clear hfz8_3
    try clear hx167_0
    try clear hx167_1
    try clear hx167_2
    try clear hx167_3
    try clear hx167_4
    try clear p167
    try clear q167
    obtain ⟨kq, x27_5, rfl, HA, HJ5, BK166, BK168, HB⟩ := hcut
    cases kq with
    | zero => exact absurd HA.out (by simp [portreeveref04_line.j0])
    | succ kj5 =>
     have H := HA.out
     clear HA
     simp only [portreeveref04_line.j0] at H
     by_cases c20 : x27_5 = true
     ·subst c20
      have H1 : (some false) = some r := by rw [if_pos rfl] at H; exact H
      clear H
      have H := H1
      clear H1
      obtain rfl := Option.some.inj H
      go_wp2
      go_ret
      exact ⟨by first | rfl | (simp [errW_none, errW_some] <;> rfl) | (simp [*, errW_none, errW_some] <;> rfl), by repeat (first | (with_reducible first | exact HB.out | apply pA | apply pN | apply pD | refine pS ?_ GE166.out | refine pS ?_ GE168.out) | exact HB.out)⟩
     ·replace c20 := Bool.eq_false_iff.mpr c20
      subst c20
      have H1 : (if t169 < 0 then (if ((rd_T72 l0_2 a1).f0) = 1 then (if ((rd_T72 l0_2 a1).f2) = 0 then (if ((rd_T72 l0_2 a1).f3) = 0 then (some (((rd_T72 l0_2 a1).f4) == 0)) else (some false)) else (some false)) else (some false)) else (if 0 ≤ t169 then (if t169 < (l0_2.length : Int) then (if ((rd_T72 l0_2 t169).f0) = 3 then (portreeveref04_line.j1 kj5 true ((rd_T72 l0_2 a1).f0) ((rd_T72 l0_2 a1).f1) ((rd_T72 l0_2 a1).f2) ((rd_T72 l0_2 a1).f3) ((rd_T72 l0_2 a1).f4)) else (if ((rd_T72 l0_2 a1).f2) < ((rd_T72 l0_2 t169).f2) then (portreeveref04_line.j1 kj5 true ((rd_T72 l0_2 a1).f0) ((rd_T72 l0_2 a1).f1) ((rd_T72 l0_2 a1).f2) ((rd_T72 l0_2 a1).f3) ((rd_T72 l0_2 a1).f4)) else (portreeveref04_line.j1 kj5 (decide (((rd_T72 l0_2 a1).f3) < ((rd_T72 l0_2 t169).f3))) ((rd_T72 l0_2 a1).f0) ((rd_T72 l0_2 a1).f1) ((rd_T72 l0_2 a1).f2) ((rd_T72 l0_2 a1).f3) ((rd_T72 l0_2 a1).f4)))) else (none)) else (none))) = some r := by rw [if_neg (show ¬ (false = true) by decide)] at H; exact H
      clear H
      have H := H1
      clear H1
      by_cases c21 : t169 < 0
      ·rw [if_pos c21] at H
       have c21b0 : decide (t169 < 0) = true := decide_eq_true c21
       clear c21
       by_cases c22 : ((rd_T72 l0_2 a1).f0) = 1
       ·rw [if_pos c22] at H
        have c22b0 : (((rd_T72 l0_2 a1).f0) == 1) = true := beq_iff_eq.mpr c22
        have c22b1 : (((rd_T72 l0_2 a1).f0) != 1) = false := bne_eq_false_iff_eq.mpr c22
        clear c22
        by_cases c23 : ((rd_T72 l0_2 a1).f2) = 0
        ·rw [if_pos c23] at H
         have c23b0 : (((rd_T72 l0_2 a1).f2) == 0) = true := beq_iff_eq.mpr c23
         have c23b1 : (((rd_T72 l0_2 a1).f2) != 0) = false := bne_eq_false_iff_eq.mpr c23
         clear c23
         by_cases c24 : ((rd_T72 l0_2 a1).f3) = 0
         ·rw [if_pos c24] at H
          have c24b0 : (((rd_T72 l0_2 a1).f3) == 0) = true := beq_iff_eq.mpr c24
          have c24b1 : (((rd_T72 l0_2 a1).f3) != 0) = false := bne_eq_false_iff_eq.mpr c24
          clear c24
          obtain rfl := Option.some.inj H
          have hnb25 := NB168_166.out
          have hnc25 := NB166_168.out
          obtain ⟨hcz26_0, hcz26_1, hcz26_2, hcz26_3, hcz26_4, hfz26_0, hfz26_1, hfz26_2, hfz26_3, hfz26_4⟩ := bk5 BK168.out
          go_wp2
          go_ret
          exact ⟨by first | rfl | (simp [errW_none, errW_some] <;> rfl) | (simp [*, errW_none, errW_some] <;> rfl), by repeat (first | (with_reducible first | exact HB.out | apply pA | apply pN | apply pD | refine pS ?_ GE166.out | refine pS ?_ GE168.out) | exact HB.out)⟩
         ·rw [if_neg c24] at H
          have c24b0 : (((rd_T72 l0_2 a1).f3) == 0) = false := beq_eq_false_iff_ne.mpr c24
          have c24b1 : (((rd_T72 l0_2 a1).f3) != 0) = true := bne_iff_ne.mpr c24
          obtain rfl := Option.some.inj H
          have hnb27 := NB168_166.out
          have hnc27 := NB166_168.out
          obtain ⟨hcz28_0, hcz28_1, hcz28_2, hcz28_3, hcz28_4, hfz28_0, hfz28_1, hfz28_2, hfz28_3, hfz28_4⟩ := bk5 BK168.out
          go_wp2
          go_ret
          exact ⟨by first | rfl | (simp [errW_none, errW_some] <;> rfl) | (simp [*, errW_none, errW_some] <;> rfl), by repeat (first | (with_reducible first | exact HB.out | apply pA | apply pN | apply pD | refine pS ?_ GE166.out | refine pS ?_ GE168.out) | exact HB.out)⟩
        ·rw [if_neg c23] at H
         have c23b0 : (((rd_T72 l0_2 a1).f2) == 0) = false := beq_eq_false_iff_ne.mpr c23
         have c23b1 : (((rd_T72 l0_2 a1).f2) != 0) = true := bne_iff_ne.mpr c23
         obtain rfl := Option.some.inj H
         have hnb29 := NB168_166.out
         have hnc29 := NB166_168.out
         obtain ⟨hcz30_0, hcz30_1, hcz30_2, hcz30_3, hcz30_4, hfz30_0, hfz30_1, hfz30_2, hfz30_3, hfz30_4⟩ := bk5 BK168.out
         go_wp2
         go_ret
         exact ⟨by first | rfl | (simp [errW_none, errW_some] <;> rfl) | (simp [*, errW_none, errW_some] <;> rfl), by repeat (first | (with_reducible first | exact HB.out | apply pA | apply pN | apply pD | refine pS ?_ GE166.out | refine pS ?_ GE168.out) | exact HB.out)⟩
       ·rw [if_neg c22] at H
        have c22b0 : (((rd_T72 l0_2 a1).f0) == 1) = false := beq_eq_false_iff_ne.mpr c22
        have c22b1 : (((rd_T72 l0_2 a1).f0) != 1) = true := bne_iff_ne.mpr c22
        obtain rfl := Option.some.inj H
        have hnb31 := NB168_166.out
        have hnc31 := NB166_168.out
        obtain ⟨hcz32_0, hcz32_1, hcz32_2, hcz32_3, hcz32_4, hfz32_0, hfz32_1, hfz32_2, hfz32_3, hfz32_4⟩ := bk5 BK168.out
        go_wp2
        go_ret
        exact ⟨by first | rfl | (simp [errW_none, errW_some] <;> rfl) | (simp [*, errW_none, errW_some] <;> rfl), by repeat (first | (with_reducible first | exact HB.out | apply pA | apply pN | apply pD | refine pS ?_ GE166.out | refine pS ?_ GE168.out) | exact HB.out)⟩
      ·rw [if_neg c21] at H
       have c21b0 : decide (t169 < 0) = false := decide_eq_false c21
       clear c21
       by_cases c33 : 0 ≤ t169
       ·rw [if_pos c33] at H
        have c33b0 : decide (0 ≤ t169) = true := decide_eq_true c33
        clear c33
        by_cases c34 : t169 < (l0_2.length : Int)
        ·rw [if_pos c34] at H
         have c34b0 : decide (t169 < (l0_2.length : Int)) = true := decide_eq_true c34
         clear c34
         have HC35 := Aside0.mk H
         clear H
         have hnb36 := NB166_168.out
         have hnc36 := NB168_166.out
         obtain ⟨hcz37_0, hcz37_1, hcz37_2, hcz37_3, hfz37_0, hfz37_1, hfz37_2, hfz37_3⟩ := bk4 BK166.out
         have p170 : 0 ≤ (t169 : Int) := of_decide_eq_true (by first | (with_reducible assumption) | assumption)
         have q170 : t169 < (l0_2.length : Int) := of_decide_eq_true (by first | (with_reducible assumption) | assumption)
         obtain ⟨ad170, e170, hx170_0, hx170_1, hx170_2, hx170_3, hx170_4⟩ := at_T72 HR0_2.out t169 p170 q170
         obtain rfl : ad167 = ad170 := (by injection e170)
         replace hx170_0 := (HB.out.cell (World.block_lt_of_cell? w _ hx170_0)).trans hx170_0
         replace hx170_1 := (HB.out.cell (World.block_lt_of_cell? w _ hx170_1)).trans hx170_1
         replace hx170_2 := (HB.out.cell (World.block_lt_of_cell? w _ hx170_2)).trans hx170_2
         replace hx170_3 := (HB.out.cell (World.block_lt_of_cell? w _ hx170_3)).trans hx170_3
         replace hx170_4 := (HB.out.cell (World.block_lt_of_cell? w _ hx170_4)).trans hx170_4
         replace p170 := eq_true p170
         replace q170 := eq_true q170
         go_upto_region 8 with (first | ((with_reducible refine gate_dst (N := 7) rfl ?_); refine box_event ?hg (N := 7) ?hd (cs := #[.int .i64 0, .int .i64 0, .int .u64 0, .int .u64 0, .int .i64 0]) (t := 72) ?hr ?_; (case hd => rfl); (case hg => rfl); (case hr => first | (go_simp; done) | (go_simp; rfl)); intro gb171 hg w38 hbox hb; have n0_ := Aside0.mk (blk_below (g := gb166) (o := .cells #[.int .i64 a0_0, .slice A0_1 l0_1.length c0_1, .slice (some ad167) l0_2.length c0_2, .slice A0_3 l0_3.length c0_3] 26 (0, 0)) (zB BK166.out) hb); have n1_ := Aside0.mk (blk_below (g := gb168) (o := .cells #[.int .i64 ((rd_T72 l0_2 a1).f0), .int .i64 ((rd_T72 l0_2 a1).f1), .int .u64 ((rd_T72 l0_2 a1).f2), .int .u64 ((rd_T72 l0_2 a1).f3), .int .i64 ((rd_T72 l0_2 a1).f4)] 72 (0, 0)) (zB BK168.out) hb); have n2_ := Aside0.mk (below_step (by repeat (first | (with_reducible first | exact HB.out | apply pA | apply pN | apply pD | refine pS ?_ GE166.out | refine pS ?_ GE168.out) | exact HB.out)) hb); have n3_ := Aside0.mk (hbox); have n4_ := Aside0.mk ((by rw [hg]; exact (below_size (by repeat (first | (with_reducible first | exact HB.out | apply pA | apply pN | apply pD | refine pS ?_ GE166.out | refine pS ?_ GE168.out) | exact HB.out))) : w.heap.size ≤ gb171)); have n5_ := Aside0.mk ((by rw [hg]; exact (below_size (by repeat (first | (with_reducible first | exact HB.out | apply pA | apply pN | apply pD | refine pS ?_ GE166.out | refine pS ?_ GE168.out) | exact HB.out))) : w.heap.size ≤ gb171)); have n6_ := Aside0.mk ((by rw [hg]; exact Nat.ne_of_lt (blk_lt (g := gb166) (o := .cells #[.int .i64 a0_0, .slice A0_1 l0_1.length c0_1, .slice (some ad167) l0_2.length c0_2, .slice A0_3 l0_3.length c0_3] 26 (0, 0)) (zB BK166.out)) : gb166 ≠ gb171)); have n7_ := Aside0.mk ((by rw [hg]; exact Nat.ne_of_gt (blk_lt (g := gb166) (o := .cells #[.int .i64 a0_0, .slice A0_1 l0_1.length c0_1, .slice (some ad167) l0_2.length c0_2, .slice A0_3 l0_3.length c0_3] 26 (0, 0)) (zB BK166.out)) : gb171 ≠ gb166)); have n8_ := Aside0.mk ((by rw [hg]; exact Nat.ne_of_lt (blk_lt (g := gb168) (o := .cells #[.int .i64 ((rd_T72 l0_2 a1).f0), .int .i64 ((rd_T72 l0_2 a1).f1), .int .u64 ((rd_T72 l0_2 a1).f2), .int .u64 ((rd_T72 l0_2 a1).f3), .int .i64 ((rd_T72 l0_2 a1).f4)] 72 (0, 0)) (zB BK168.out)) : gb168 ≠ gb171)); have n9_ := Aside0.mk ((by rw [hg]; exact Nat.ne_of_gt (blk_lt (g := gb168) (o := .cells #[.int .i64 ((rd_T72 l0_2 a1).f0), .int .i64 ((rd_T72 l0_2 a1).f1), .int .u64 ((rd_T72 l0_2 a1).f2), .int .u64 ((rd_T72 l0_2 a1).f3), .int .i64 ((rd_T72 l0_2 a1).f4)] 72 (0, 0)) (zB BK168.out)) : gb171 ≠ gb168)); clear BK166; clear BK168; clear HB; have BK166 := n0_; have BK168 := n1_; have HB := n2_; have BK171 := n3_; have GW171 := n4_; have GE171 := n5_; have NB166_171 := n6_; have NB171_166 := n7_; have NB168_171 := n8_; have NB171_168 := n9_; clear n0_ n1_ n2_ n3_ n4_ n5_ n6_ n7_ n8_ n9_; clear hb hbox hg; have hnb39 := NB171_166.out; have hnc39 := NB166_171.out; have hnb40 := NB171_168.out; have hnc40 := NB168_171.out; obtain ⟨hcz41_0, hcz41_1, hcz41_2, hcz41_3, hcz41_4, hfz41_0, hfz41_1, hfz41_2, hfz41_3, hfz41_4⟩ := bk5 BK171.out))
         (try simp only [Act.put, sT, s0, s1])
         go_cut [69] (fun v69 wc => ∃ (kq : Nat) (x69_34 : Bool), v69 = .bool x69_34 ∧ Aside0 (portreeveref04_line.j1 kq x69_34 ((rd_T72 l0_2 a1).f0) ((rd_T72 l0_2 a1).f1) ((rd_T72 l0_2 a1).f2) ((rd_T72 l0_2 a1).f3) ((rd_T72 l0_2 a1).f4) = some r) ∧ Aside0 (kq ≤ kj5) ∧ Aside0 (wc.heap[gb166]? = some (.cells #[.int .i64 a0_0, (.slice A0_1 l0_1.length c0_1), (.slice (some ad167) l0_2.length c0_2), (.slice A0_3 l0_3.length c0_3)] 26 (0, 0))) ∧ Aside0 (wc.heap[gb168]? = some (.cells #[.int .i64 ((rd_T72 l0_2 a1).f0), .int .i64 ((rd_T72 l0_2 a1).f1), .int .u64 ((rd_T72 l0_2 a1).f2), .int .u64 ((rd_T72 l0_2 a1).f3), .int .i64 ((rd_T72 l0_2 a1).f4)] 72 (0, 0))) ∧ Aside0 (wc.heap[gb171]? = some (.cells #[.int .i64 ((rd_T72 l0_2 t169).f0), .int .i64 ((rd_T72 l0_2 t169).f1), .int .u64 ((rd_T72 l0_2 t169).f2), .int .u64 ((rd_T72 l0_2 t169).f3), .int .i64 ((rd_T72 l0_2 t169).f4)] 72 (0, 0))) ∧ Aside0 (Below w.heap.size w wc))
         case first =>
          have H := HC35.out
          clear HC35
          by_cases c42 : ((rd_T72 l0_2 t169).f0) = 3
          ·rw [if_pos c42] at H
           have c42b0 : (((rd_T72 l0_2 t169).f0) == 3) = true := beq_iff_eq.mpr c42
           have c42b1 : (((rd_T72 l0_2 t169).f0) != 3) = false := bne_eq_false_iff_eq.mpr c42
           clear c42
           (first | rw [c42b0] | (simp only [i64_w, i32_w]; rw [c42b0]) | skip)
           have H' := Aside0.mk H
           clear H
           have hnb43 := NB171_166.out
           have hnc43 := NB166_171.out
           have hnb44 := NB171_168.out
           have hnc44 := NB168_171.out
           obtain ⟨hcz45_0, hcz45_1, hcz45_2, hcz45_3, hcz45_4, hfz45_0, hfz45_1, hfz45_2, hfz45_3, hfz45_4⟩ := bk5 BK171.out
           go_wp2
           go_meet
           case rel => exact ⟨_, (true), (by first | rfl | (simp; done) | (simp [*]; done)), H', ⟨by have := HJ5.out; first | omega | exact Nat.le_refl _⟩, ⟨by (with_reducible repeat (first | refine qN ?_ _ | refine qD ?_ | refine qA ?_ _)); refine blk_far ?_ NB166_171.out _; (with_reducible repeat (first | refine qN ?_ _ | refine qD ?_ | refine qA ?_ _)); refine blk_far ?_ NB166_171.out _; (with_reducible repeat (first | refine qN ?_ _ | refine qD ?_ | refine qA ?_ _)); refine blk_far ?_ NB166_171.out _; (with_reducible repeat (first | refine qN ?_ _ | refine qD ?_ | refine qA ?_ _)); refine blk_far ?_ NB166_171.out _; (with_reducible repeat (first | refine qN ?_ _ | refine qD ?_ | refine qA ?_ _)); refine blk_far ?_ NB166_171.out _; (with_reducible repeat (first | refine qN ?_ _ | refine qD ?_ | refine qA ?_ _)); exact BK166.out⟩, ⟨by (with_reducible repeat (first | refine qN ?_ _ | refine qD ?_ | refine qA ?_ _)); refine blk_far ?_ NB168_171.out _; (with_reducible repeat (first | refine qN ?_ _ | refine qD ?_ | refine qA ?_ _)); refine blk_far ?_ NB168_171.out _; (with_reducible repeat (first | refine qN ?_ _ | refine qD ?_ | refine qA ?_ _)); refine blk_far ?_ NB168_171.out _; (with_reducible repeat (first | refine qN ?_ _ | refine qD ?_ | refine qA ?_ _)); refine blk_far ?_ NB168_171.out _; (with_reducible repeat (first | refine qN ?_ _ | refine qD ?_ | refine qA ?_ _)); refine blk_far ?_ NB168_171.out _; (with_reducible repeat (first | refine qN ?_ _ | refine qD ?_ | refine qA ?_ _)); exact BK168.out⟩, ⟨by (with_reducible repeat (first | refine qN ?_ _ | refine qD ?_ | refine qA ?_ _)); refine blk_put (cs := #[.int .i64 ((rd_T72 l0_2 t169).f0), .int .i64 ((rd_T72 l0_2 t169).f1), .int .u64 ((rd_T72 l0_2 t169).f2), .int .u64 ((rd_T72 l0_2 t169).f3), .int .i64 0]) ?_ 4 _ rfl; (with_reducible repeat (first | refine qN ?_ _ | refine qD ?_ | refine qA ?_ _)); refine blk_put (cs := #[.int .i64 ((rd_T72 l0_2 t169).f0), .int .i64 ((rd_T72 l0_2 t169).f1), .int .u64 ((rd_T72 l0_2 t169).f2), .int .u64 0, .int .i64 0]) ?_ 3 _ rfl; (with_reducible repeat (first | refine qN ?_ _ | refine qD ?_ | refine qA ?_ _)); refine blk_put (cs := #[.int .i64 ((rd_T72 l0_2 t169).f0), .int .i64 ((rd_T72 l0_2 t169).f1), .int .u64 0, .int .u64 0, .int .i64 0]) ?_ 2 _ rfl; (with_reducible repeat (first | refine qN ?_ _ | refine qD ?_ | refine qA ?_ _)); refine blk_put (cs := #[.int .i64 ((rd_T72 l0_2 t169).f0), .int .i64 0, .int .u64 0, .int .u64 0, .int .i64 0]) ?_ 1 _ rfl; (with_reducible repeat (first | refine qN ?_ _ | refine qD ?_ | refine qA ?_ _)); refine blk_put (cs := #[.int .i64 0, .int .i64 0, .int .u64 0, .int .u64 0, .int .i64 0]) ?_ 0 _ rfl; (with_reducible repeat (first | refine qN ?_ _ | refine qD ?_ | refine qA ?_ _)); exact BK171.out⟩, ⟨by repeat (first | (with_reducible first | exact HB.out | apply pA | apply pN | apply pD | refine pS ?_ GE166.out | refine pS ?_ GE168.out | refine pS ?_ GE171.out) | exact HB.out)⟩⟩
          ·rw [if_neg c42] at H
           have c42b0 : (((rd_T72 l0_2 t169).f0) == 3) = false := beq_eq_false_iff_ne.mpr c42
           have c42b1 : (((rd_T72 l0_2 t169).f0) != 3) = true := bne_iff_ne.mpr c42
           (first | rw [c42b0] | (simp only [i64_w, i32_w]; rw [c42b0]) | skip)
           by_cases c46 : ((rd_T72 l0_2 a1).f2) < ((rd_T72 l0_2 t169).f2)
           ·rw [if_pos c46] at H
            have c46b0 : decide (((rd_T72 l0_2 a1).f2) < ((rd_T72 l0_2 t169).f2)) = true := decide_eq_true c46
            clear c46
            have H' := Aside0.mk H
            clear H
            have hnb47 := NB171_166.out
            have hnc47 := NB166_171.out
            have hnb48 := NB171_168.out
            have hnc48 := NB168_171.out
            obtain ⟨hcz49_0, hcz49_1, hcz49_2, hcz49_3, hcz49_4, hfz49_0, hfz49_1, hfz49_2, hfz49_3, hfz49_4⟩ := bk5 BK171.out
            have hnb50 := NB168_166.out
            have hnc50 := NB166_168.out
            obtain ⟨hcz51_0, hcz51_1, hcz51_2, hcz51_3, hcz51_4, hfz51_0, hfz51_1, hfz51_2, hfz51_3, hfz51_4⟩ := bk5 BK168.out
            go_wp2
            go_meet
            case rel => exact ⟨_, (true), (by first | rfl | (simp; done) | (simp [*]; done)), H', ⟨by have := HJ5.out; first | omega | exact Nat.le_refl _⟩, ⟨by (with_reducible repeat (first | refine qN ?_ _ | refine qD ?_ | refine qA ?_ _)); refine blk_far ?_ NB166_171.out _; (with_reducible repeat (first | refine qN ?_ _ | refine qD ?_ | refine qA ?_ _)); refine blk_far ?_ NB166_171.out _; (with_reducible repeat (first | refine qN ?_ _ | refine qD ?_ | refine qA ?_ _)); refine blk_far ?_ NB166_171.out _; (with_reducible repeat (first | refine qN ?_ _ | refine qD ?_ | refine qA ?_ _)); refine blk_far ?_ NB166_171.out _; (with_reducible repeat (first | refine qN ?_ _ | refine qD ?_ | refine qA ?_ _)); refine blk_far ?_ NB166_171.out _; (with_reducible repeat (first | refine qN ?_ _ | refine qD ?_ | refine qA ?_ _)); exact BK166.out⟩, ⟨by (with_reducible repeat (first | refine qN ?_ _ | refine qD ?_ | refine qA ?_ _)); refine blk_far ?_ NB168_171.out _; (with_reducible repeat (first | refine qN ?_ _ | refine qD ?_ | refine qA ?_ _)); refine blk_far ?_ NB168_171.out _; (with_reducible repeat (first | refine qN ?_ _ | refine qD ?_ | refine qA ?_ _)); refine blk_far ?_ NB168_171.out _; (with_reducible repeat (first | refine qN ?_ _ | refine qD ?_ | refine qA ?_ _)); refine blk_far ?_ NB168_171.out _; (with_reducible repeat (first | refine qN ?_ _ | refine qD ?_ | refine qA ?_ _)); refine blk_far ?_ NB168_171.out _; (with_reducible repeat (first | refine qN ?_ _ | refine qD ?_ | refine qA ?_ _)); exact BK168.out⟩, ⟨by (with_reducible repeat (first | refine qN ?_ _ | refine qD ?_ | refine qA ?_ _)); refine blk_put (cs := #[.int .i64 ((rd_T72 l0_2 t169).f0), .int .i64 ((rd_T72 l0_2 t169).f1), .int .u64 ((rd_T72 l0_2 t169).f2), .int .u64 ((rd_T72 l0_2 t169).f3), .int .i64 0]) ?_ 4 _ rfl; (with_reducible repeat (first | refine qN ?_ _ | refine qD ?_ | refine qA ?_ _)); refine blk_put (cs := #[.int .i64 ((rd_T72 l0_2 t169).f0), .int .i64 ((rd_T72 l0_2 t169).f1), .int .u64 ((rd_T72 l0_2 t169).f2), .int .u64 0, .int .i64 0]) ?_ 3 _ rfl; (with_reducible repeat (first | refine qN ?_ _ | refine qD ?_ | refine qA ?_ _)); refine blk_put (cs := #[.int .i64 ((rd_T72 l0_2 t169).f0), .int .i64 ((rd_T72 l0_2 t169).f1), .int .u64 0, .int .u64 0, .int .i64 0]) ?_ 2 _ rfl; (with_reducible repeat (first | refine qN ?_ _ | refine qD ?_ | refine qA ?_ _)); refine blk_put (cs := #[.int .i64 ((rd_T72 l0_2 t169).f0), .int .i64 0, .int .u64 0, .int .u64 0, .int .i64 0]) ?_ 1 _ rfl; (with_reducible repeat (first | refine qN ?_ _ | refine qD ?_ | refine qA ?_ _)); refine blk_put (cs := #[.int .i64 0, .int .i64 0, .int .u64 0, .int .u64 0, .int .i64 0]) ?_ 0 _ rfl; (with_reducible repeat (first | refine qN ?_ _ | refine qD ?_ | refine qA ?_ _)); exact BK171.out⟩, ⟨by repeat (first | (with_reducible first | exact HB.out | apply pA | apply pN | apply pD | refine pS ?_ GE166.out | refine pS ?_ GE168.out | refine pS ?_ GE171.out) | exact HB.out)⟩⟩
           ·rw [if_neg c46] at H
            have c46b0 : decide (((rd_T72 l0_2 a1).f2) < ((rd_T72 l0_2 t169).f2)) = false := decide_eq_false c46
            clear c46
            have H' := Aside0.mk H
            clear H
            have hnb52 := NB171_166.out
            have hnc52 := NB166_171.out
            have hnb53 := NB171_168.out
            have hnc53 := NB168_171.out
            obtain ⟨hcz54_0, hcz54_1, hcz54_2, hcz54_3, hcz54_4, hfz54_0, hfz54_1, hfz54_2, hfz54_3, hfz54_4⟩ := bk5 BK171.out
            have hnb55 := NB168_166.out
            have hnc55 := NB166_168.out
            obtain ⟨hcz56_0, hcz56_1, hcz56_2, hcz56_3, hcz56_4, hfz56_0, hfz56_1, hfz56_2, hfz56_3, hfz56_4⟩ := bk5 BK168.out
            go_wp2
            go_meet
            case rel => exact ⟨_, (decide (((rd_T72 l0_2 a1).f3) < ((rd_T72 l0_2 t169).f3))), (by first | rfl | (simp; done) | (simp [*]; done)), H', ⟨by have := HJ5.out; first | omega | exact Nat.le_refl _⟩, ⟨by (with_reducible repeat (first | refine qN ?_ _ | refine qD ?_ | refine qA ?_ _)); refine blk_far ?_ NB166_171.out _; (with_reducible repeat (first | refine qN ?_ _ | refine qD ?_ | refine qA ?_ _)); refine blk_far ?_ NB166_171.out _; (with_reducible repeat (first | refine qN ?_ _ | refine qD ?_ | refine qA ?_ _)); refine blk_far ?_ NB166_171.out _; (with_reducible repeat (first | refine qN ?_ _ | refine qD ?_ | refine qA ?_ _)); refine blk_far ?_ NB166_171.out _; (with_reducible repeat (first | refine qN ?_ _ | refine qD ?_ | refine qA ?_ _)); refine blk_far ?_ NB166_171.out _; (with_reducible repeat (first | refine qN ?_ _ | refine qD ?_ | refine qA ?_ _)); exact BK166.out⟩, ⟨by (with_reducible repeat (first | refine qN ?_ _ | refine qD ?_ | refine qA ?_ _)); refine blk_far ?_ NB168_171.out _; (with_reducible repeat (first | refine qN ?_ _ | refine qD ?_ | refine qA ?_ _)); refine blk_far ?_ NB168_171.out _; (with_reducible repeat (first | refine qN ?_ _ | refine qD ?_ | refine qA ?_ _)); refine blk_far ?_ NB168_171.out _; (with_reducible repeat (first | refine qN ?_ _ | refine qD ?_ | refine qA ?_ _)); refine blk_far ?_ NB168_171.out _; (with_reducible repeat (first | refine qN ?_ _ | refine qD ?_ | refine qA ?_ _)); refine blk_far ?_ NB168_171.out _; (with_reducible repeat (first | refine qN ?_ _ | refine qD ?_ | refine qA ?_ _)); exact BK168.out⟩, ⟨by (with_reducible repeat (first | refine qN ?_ _ | refine qD ?_ | refine qA ?_ _)); refine blk_put (cs := #[.int .i64 ((rd_T72 l0_2 t169).f0), .int .i64 ((rd_T72 l0_2 t169).f1), .int .u64 ((rd_T72 l0_2 t169).f2), .int .u64 ((rd_T72 l0_2 t169).f3), .int .i64 0]) ?_ 4 _ rfl; (with_reducible repeat (first | refine qN ?_ _ | refine qD ?_ | refine qA ?_ _)); refine blk_put (cs := #[.int .i64 ((rd_T72 l0_2 t169).f0), .int .i64 ((rd_T72 l0_2 t169).f1), .int .u64 ((rd_T72 l0_2 t169).f2), .int .u64 0, .int .i64 0]) ?_ 3 _ rfl; (with_reducible repeat (first | refine qN ?_ _ | refine qD ?_ | refine qA ?_ _)); refine blk_put (cs := #[.int .i64 ((rd_T72 l0_2 t169).f0), .int .i64 ((rd_T72 l0_2 t169).f1), .int .u64 0, .int .u64 0, .int .i64 0]) ?_ 2 _ rfl; (with_reducible repeat (first | refine qN ?_ _ | refine qD ?_ | refine qA ?_ _)); refine blk_put (cs := #[.int .i64 ((rd_T72 l0_2 t169).f0), .int .i64 0, .int .u64 0, .int .u64 0, .int .i64 0]) ?_ 1 _ rfl; (with_reducible repeat (first | refine qN ?_ _ | refine qD ?_ | refine qA ?_ _)); refine blk_put (cs := #[.int .i64 0, .int .i64 0, .int .u64 0, .int .u64 0, .int .i64 0]) ?_ 0 _ rfl; (with_reducible repeat (first | refine qN ?_ _ | refine qD ?_ | refine qA ?_ _)); exact BK171.out⟩, ⟨by repeat (first | (with_reducible first | exact HB.out | apply pA | apply pN | apply pD | refine pS ?_ GE166.out | refine pS ?_ GE168.out | refine pS ?_ GE171.out) | exact HB.out)⟩⟩
         case rest =>
          clear HC35
          try clear c1
          try clear p1
          try clear q1
          try clear hx1
          try clear c2
          try clear p2
          try clear c3
          try clear c3b0
          try clear c4
          try clear c4b0
          try clear c5
          try clear c10
          try clear c14
          try clear c14b0
          try clear c15
          try clear p16
          try clear q16
          try clear hx16
          try clear c17
          try clear p17
          try clear q17
          try clear hx17
          try clear c20
          try clear c21
          try clear c21b0
          try clear c22
          try clear c22b0
          try clear c22b1
          try clear c23
          try clear c23b0
          try clear c23b1
          try clear c24
          try clear c24b0
          try clear c24b1
          try clear c25
          try clear c27
          try clear c28
          try clear c29
          try clear c31
          try clear c33
          try clear c33b0
          try clear c34
          try clear c34b0
          try clear c36
          try clear c39
          try clear c40
          try clear c42
          try clear c42b0
          try clear c42b1
          try clear c43
          try clear c44
          try clear c46
          try clear c46b0
          try clear c47
          try clear c48
          try clear c50
          try clear c52
          try clear c53
          try clear c55
          try clear hcz11_0
          try clear hcz11_1
          try clear hcz11_2
          try clear hcz11_3
          try clear hcz11_4
          try clear hcz12_0
          try clear hcz12_1
          try clear hcz12_2
          try clear hcz12_3
          try clear hcz16_0
          try clear hcz16_1
          try clear hcz16_2
          try clear hcz16_3
          try clear hcz16_4
          try clear hcz18_0
          try clear hcz18_1
          try clear hcz18_2
          try clear hcz18_3
          try clear hcz18_4
          try clear hcz19_0
          try clear hcz19_1
          try clear hcz19_2
          try clear hcz19_3
          try clear hcz26_0
          try clear hcz26_1
          try clear hcz26_2
          try clear hcz26_3
          try clear hcz26_4
          try clear hcz28_0
          try clear hcz28_1
          try clear hcz28_2
          try clear hcz28_3
          try clear hcz28_4
          try clear hcz30_0
          try clear hcz30_1
          try clear hcz30_2
          try clear hcz30_3
          try clear hcz30_4
          try clear hcz32_0
          try clear hcz32_1
          try clear hcz32_2
          try clear hcz32_3
          try clear hcz32_4
          try clear hcz37_0
          try clear hcz37_1
          try clear hcz37_2
          try clear hcz37_3
          try clear hcz41_0
          try clear hcz41_1
          try clear hcz41_2
          try clear hcz41_3
          try clear hcz41_4
          try clear hcz45_0
          try clear hcz45_1
          try clear hcz45_2
          try clear hcz45_3
          try clear hcz45_4
          try clear hcz49_0
          try clear hcz49_1
          try clear hcz49_2
          try clear hcz49_3
          try clear hcz49_4
          try clear hcz51_0
          try clear hcz51_1
          try clear hcz51_2
          try clear hcz51_3
          try clear hcz51_4
          try clear hcz54_0
          try clear hcz54_1
          try clear hcz54_2
          try clear hcz54_3
          try clear hcz54_4
          try clear hcz56_0
          try clear hcz56_1
          try clear hcz56_2
          try clear hcz56_3
          try clear hcz56_4
          try clear hcz8_0
          try clear hcz8_1
          try clear hcz8_2
          try clear hcz8_3
          try clear hfz11_0
          try clear hfz11_1
          try clear hfz11_2
          try clear hfz11_3
          try clear hfz11_4
          try clear hfz12_0
          try clear hfz12_1
          try clear hfz12_2
          try clear hfz12_3
          try clear hfz16_0
          try clear hfz16_1
          try clear hfz16_2
          try clear hfz16_3
          try clear hfz16_4
          try clear hfz18_0
          try clear hfz18_1
          try clear hfz18_2
          try clear hfz18_3
          try clear hfz18_4
          try clear hfz19_0
          try clear hfz19_1
          try clear hfz19_2
          try clear hfz19_3
          try clear hfz26_0
          try clear hfz26_1
          try clear hfz26_2
          try clear hfz26_3
          try clear hfz26_4
          try clear hfz28_0
          try clear hfz28_1
          try clear hfz28_2
          try clear hfz28_3
          try clear hfz28_4
          try clear hfz30_0
          try clear hfz30_1
          try clear hfz30_2
          try clear hfz30_3
          try clear hfz30_4
          try clear hfz32_0
          try clear hfz32_1
          try clear hfz32_2
          try clear hfz32_3
          try clear hfz32_4
          try clear hfz37_0
          try clear hfz37_1
          try clear hfz37_2
          try clear hfz37_3
          try clear hfz41_0
          try clear hfz41_1
          try clear hfz41_2
          try clear hfz41_3
          try clear hfz41_4
          try clear hfz45_0
          try clear hfz45_1
          try clear hfz45_2
          try clear hfz45_3
          try clear hfz45_4
          try clear hfz49_0
          try clear hfz49_1
          try clear hfz49_2
          try clear hfz49_3
          try clear hfz49_4
          try clear hfz51_0
          try clear hfz51_1
          try clear hfz51_2
          try clear hfz51_3
          try clear hfz51_4
          try clear hfz54_0
          try clear hfz54_1
          try clear hfz54_2
          try clear hfz54_3
          try clear hfz54_4
          try clear hfz56_0
          try clear hfz56_1
          try clear hfz56_2
          try clear hfz56_3
          try clear hfz56_4
          try clear hfz8_0
          try clear hfz8_1
          try clear hfz8_2
          try clear hfz8_3
          try clear hx167_0
          try clear hx167_1
          try clear hx167_2
          try clear hx167_3
          try clear hx167_4
          try clear hx170_0
          try clear hx170_1
          try clear hx170_2
          try clear hx170_3
          try clear hx170_4
          try clear p1
          try clear p16
          try clear p167
          try clear p170
          try clear p2
          try clear q1
          try clear q16
          try clear q167
          try clear q170
          obtain ⟨kq, x69_34, rfl, HA, HJ34, BK166, BK168, BK171, HB⟩ := hcut
          cases kq with
          | zero => exact absurd HA.out (by simp [portreeveref04_line.j1])
          | succ kj34 =>
           have H := HA.out
           clear HA
           simp only [portreeveref04_line.j1] at H
           by_cases c57 : x69_34 = true
           ·subst c57
            have H1 : (some false) = some r := by rw [if_pos rfl] at H; exact H
            clear H
            have H := H1
            clear H1
            obtain rfl := Option.some.inj H
            go_wp2
            go_ret
            exact ⟨by first | rfl | (simp [errW_none, errW_some] <;> rfl) | (simp [*, errW_none, errW_some] <;> rfl), by repeat (first | (with_reducible first | exact HB.out | apply pA | apply pN | apply pD | refine pS ?_ GE166.out | refine pS ?_ GE168.out | refine pS ?_ GE171.out) | exact HB.out)⟩
           ·replace c57 := Bool.eq_false_iff.mpr c57
            subst c57
            have H1 : (if ((rd_T72 l0_2 a1).f0) = 2 then (if ((rd_T72 l0_2 a1).f4) = 0 then (some true) else (if ((rd_T72 l0_2 a1).f0) = 3 then (if ((rd_T72 l0_2 a1).f4) ≥ 0 then (some (decide (((rd_T72 l0_2 a1).f4) ≤ 255))) else (some false)) else (some false))) else (if ((rd_T72 l0_2 a1).f0) = 3 then (if ((rd_T72 l0_2 a1).f4) ≥ 0 then (some (decide (((rd_T72 l0_2 a1).f4) ≤ 255))) else (some false)) else (some false))) = some r := by rw [if_neg (show ¬ (false = true) by decide)] at H; exact H
            clear H
            have H := H1
            clear H1
            by_cases c58 : ((rd_T72 l0_2 a1).f0) = 2
            ·rw [if_pos c58] at H
             have c58b0 : (((rd_T72 l0_2 a1).f0) == 2) = true := beq_iff_eq.mpr c58
             have c58b1 : (((rd_T72 l0_2 a1).f0) != 2) = false := bne_eq_false_iff_eq.mpr c58
             clear c58
             by_cases c59 : ((rd_T72 l0_2 a1).f4) = 0
             ·rw [if_pos c59] at H
              have c59b0 : (((rd_T72 l0_2 a1).f4) == 0) = true := beq_iff_eq.mpr c59
              have c59b1 : (((rd_T72 l0_2 a1).f4) != 0) = false := bne_eq_false_iff_eq.mpr c59
              clear c59
              obtain rfl := Option.some.inj H
              have hnb60 := NB168_166.out
              have hnc60 := NB166_168.out
              have hnb61 := NB168_171.out
              have hnc61 := NB171_168.out
              obtain ⟨hcz62_0, hcz62_1, hcz62_2, hcz62_3, hcz62_4, hfz62_0, hfz62_1, hfz62_2, hfz62_3, hfz62_4⟩ := bk5 BK168.out
              go_wp2
              go_ret
              exact ⟨by first | rfl | (simp [errW_none, errW_some] <;> rfl) | (simp [*, errW_none, errW_some] <;> rfl), by repeat (first | (with_reducible first | exact HB.out | apply pA | apply pN | apply pD | refine pS ?_ GE166.out | refine pS ?_ GE168.out | refine pS ?_ GE171.out) | exact HB.out)⟩
             ·rw [if_neg c59] at H
              have c59b0 : (((rd_T72 l0_2 a1).f4) == 0) = false := beq_eq_false_iff_ne.mpr c59
              have c59b1 : (((rd_T72 l0_2 a1).f4) != 0) = true := bne_iff_ne.mpr c59
              by_cases c63 : ((rd_T72 l0_2 a1).f0) = 3
              ·rw [if_pos c63] at H
               have c63b0 : (((rd_T72 l0_2 a1).f0) == 3) = true := beq_iff_eq.mpr c63
               have c63b1 : (((rd_T72 l0_2 a1).f0) != 3) = false := bne_eq_false_iff_eq.mpr c63
               clear c63
               by_cases c64 : ((rd_T72 l0_2 a1).f4) ≥ 0
               ·rw [if_pos c64] at H
                have c64b0 : decide (0 ≤ ((rd_T72 l0_2 a1).f4)) = true := decide_eq_true c64
                clear c64
                obtain rfl := Option.some.inj H
                have hnb65 := NB168_166.out
                have hnc65 := NB166_168.out
                have hnb66 := NB168_171.out
                have hnc66 := NB171_168.out
                obtain ⟨hcz67_0, hcz67_1, hcz67_2, hcz67_3, hcz67_4, hfz67_0, hfz67_1, hfz67_2, hfz67_3, hfz67_4⟩ := bk5 BK168.out
                go_wp2
                go_ret
                exact ⟨by first | rfl | (simp [errW_none, errW_some] <;> rfl) | (simp [*, errW_none, errW_some] <;> rfl), by repeat (first | (with_reducible first | exact HB.out | apply pA | apply pN | apply pD | refine pS ?_ GE166.out | refine pS ?_ GE168.out | refine pS ?_ GE171.out) | exact HB.out)⟩
               ·rw [if_neg c64] at H
                have c64b0 : decide (0 ≤ ((rd_T72 l0_2 a1).f4)) = false := decide_eq_false c64
                clear c64
                obtain rfl := Option.some.inj H
                have hnb68 := NB168_166.out
                have hnc68 := NB166_168.out
                have hnb69 := NB168_171.out
                have hnc69 := NB171_168.out
                obtain ⟨hcz70_0, hcz70_1, hcz70_2, hcz70_3, hcz70_4, hfz70_0, hfz70_1, hfz70_2, hfz70_3, hfz70_4⟩ := bk5 BK168.out
                go_wp2
                go_ret
                exact ⟨by first | rfl | (simp [errW_none, errW_some] <;> rfl) | (simp [*, errW_none, errW_some] <;> rfl), by repeat (first | (with_reducible first | exact HB.out | apply pA | apply pN | apply pD | refine pS ?_ GE166.out | refine pS ?_ GE168.out | refine pS ?_ GE171.out) | exact HB.out)⟩
              ·rw [if_neg c63] at H
               have c63b0 : (((rd_T72 l0_2 a1).f0) == 3) = false := beq_eq_false_iff_ne.mpr c63
               have c63b1 : (((rd_T72 l0_2 a1).f0) != 3) = true := bne_iff_ne.mpr c63
               obtain rfl := Option.some.inj H
               have hnb71 := NB168_166.out
               have hnc71 := NB166_168.out
               have hnb72 := NB168_171.out
               have hnc72 := NB171_168.out
               obtain ⟨hcz73_0, hcz73_1, hcz73_2, hcz73_3, hcz73_4, hfz73_0, hfz73_1, hfz73_2, hfz73_3, hfz73_4⟩ := bk5 BK168.out
               go_wp2
               go_ret
               exact ⟨by first | rfl | (simp [errW_none, errW_some] <;> rfl) | (simp [*, errW_none, errW_some] <;> rfl), by repeat (first | (with_reducible first | exact HB.out | apply pA | apply pN | apply pD | refine pS ?_ GE166.out | refine pS ?_ GE168.out | refine pS ?_ GE171.out) | exact HB.out)⟩
            ·rw [if_neg c58] at H
             have c58b0 : (((rd_T72 l0_2 a1).f0) == 2) = false := beq_eq_false_iff_ne.mpr c58
             have c58b1 : (((rd_T72 l0_2 a1).f0) != 2) = true := bne_iff_ne.mpr c58
             by_cases c74 : ((rd_T72 l0_2 a1).f0) = 3
             ·rw [if_pos c74] at H
              have c74b0 : (((rd_T72 l0_2 a1).f0) == 3) = true := beq_iff_eq.mpr c74
              have c74b1 : (((rd_T72 l0_2 a1).f0) != 3) = false := bne_eq_false_iff_eq.mpr c74
              clear c74
              by_cases c75 : ((rd_T72 l0_2 a1).f4) ≥ 0
              ·rw [if_pos c75] at H
               have c75b0 : decide (0 ≤ ((rd_T72 l0_2 a1).f4)) = true := decide_eq_true c75
               clear c75
               obtain rfl := Option.some.inj H
               have hnb76 := NB168_166.out
               have hnc76 := NB166_168.out
               have hnb77 := NB168_171.out
               have hnc77 := NB171_168.out
               obtain ⟨hcz78_0, hcz78_1, hcz78_2, hcz78_3, hcz78_4, hfz78_0, hfz78_1, hfz78_2, hfz78_3, hfz78_4⟩ := bk5 BK168.out
               go_wp2
               go_ret
               exact ⟨by first | rfl | (simp [errW_none, errW_some] <;> rfl) | (simp [*, errW_none, errW_some] <;> rfl), by repeat (first | (with_reducible first | exact HB.out | apply pA | apply pN | apply pD | refine pS ?_ GE166.out | refine pS ?_ GE168.out | refine pS ?_ GE171.out) | exact HB.out)⟩
              ·rw [if_neg c75] at H
               have c75b0 : decide (0 ≤ ((rd_T72 l0_2 a1).f4)) = false := decide_eq_false c75
               clear c75
               obtain rfl := Option.some.inj H
               have hnb79 := NB168_166.out
               have hnc79 := NB166_168.out
               have hnb80 := NB168_171.out
               have hnc80 := NB171_168.out
               obtain ⟨hcz81_0, hcz81_1, hcz81_2, hcz81_3, hcz81_4, hfz81_0, hfz81_1, hfz81_2, hfz81_3, hfz81_4⟩ := bk5 BK168.out
               go_wp2
               go_ret
               exact ⟨by first | rfl | (simp [errW_none, errW_some] <;> rfl) | (simp [*, errW_none, errW_some] <;> rfl), by repeat (first | (with_reducible first | exact HB.out | apply pA | apply pN | apply pD | refine pS ?_ GE166.out | refine pS ?_ GE168.out | refine pS ?_ GE171.out) | exact HB.out)⟩
             ·rw [if_neg c74] at H
              have c74b0 : (((rd_T72 l0_2 a1).f0) == 3) = false := beq_eq_false_iff_ne.mpr c74
              have c74b1 : (((rd_T72 l0_2 a1).f0) != 3) = true := bne_iff_ne.mpr c74
              obtain rfl := Option.some.inj H
              have hnb82 := NB168_166.out
              have hnc82 := NB166_168.out
              have hnb83 := NB168_171.out
              have hnc83 := NB171_168.out
              obtain ⟨hcz84_0, hcz84_1, hcz84_2, hcz84_3, hcz84_4, hfz84_0, hfz84_1, hfz84_2, hfz84_3, hfz84_4⟩ := bk5 BK168.out
              go_wp2
              go_ret
              exact ⟨by first | rfl | (simp [errW_none, errW_some] <;> rfl) | (simp [*, errW_none, errW_some] <;> rfl), by repeat (first | (with_reducible first | exact HB.out | apply pA | apply pN | apply pD | refine pS ?_ GE166.out | refine pS ?_ GE168.out | refine pS ?_ GE171.out) | exact HB.out)⟩
        ·rw [if_neg c34] at H
         exact absurd H (by simp)
       ·rw [if_neg c33] at H
        exact absurd H (by simp)
  ·rw [if_neg c4] at H
   exact absurd H (by simp)
 ·rw [if_neg c3] at H
  exact absurd H (by simp)

end Go.Proofs.Ytocjadhpaecpaaa.Q

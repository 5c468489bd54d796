-- written by this session's own program (wip/tools/myprint.py), over the kit's print
import Derived.Test.YtlimlbhhbjaljaaQx0
import Derived.Test.YtlimlbhhbjaljaaQx1
import Derived.Test.YtlimlbhhbjaljaaQx3
import Derived.Test.YtlimlbhhbjaljaaQx4
namespace Go.Proofs.Ytlimlbhhbjaljaa.Q
open Go.RowKit Go.Proofs.YtlimlbhhbjaljaaW.PrintWords Go.Proofs.YtlimlbhhbjaljaaW.PrintLast Go.Proofs.YtlimlbhhbjaljaaW.PrintMore
open Go.Proofs.YtlimlbhhbjaljaaV
attribute [local go_sem] max2_int min2_int max_two min_two max_three min_three max_four min_four   -- for this text's walks alone
set_option linter.unusedVariables false
set_option linter.unusedSimpArgs false

attribute [local go_sem high] eqA24
/-! ### portreevelaw17_MeterUp: function 4 -/
def portreevelaw17_MeterUp.l0 : Nat → Int → Bool → Int → Int → Int → Int → Int → Int → Int → Int → Int → Int → Int → Option (Bool)
  | 0, _, _, _, _, _, _, _, _, _, _, _, _, _ => none
  | k + 1, x6, x7, x9, x11, x222000, x222001, x222002, x228000, x228001, x228002, x229000, x229001, x229002 => if x11 < (wrap64 ((wrap64 (x6)) * 6)) then ((meter_Tick.f x229000 x229001 x229002).bind fun bt229 => (if bt229.2.2.2 = true then (portreevelaw17_MeterUp.l0 k x6 x7 (wrap64 (x9 + 1)) (wrap64 (x11 + 1)) x222000 x222001 x222002 x228000 x228001 x228002 bt229.1 bt229.2.1 bt229.2.2.1) else (portreevelaw17_MeterUp.l0 k x6 x7 x9 (wrap64 (x11 + 1)) x222000 x222001 x222002 x228000 x228001 x228002 bt229.1 bt229.2.1 bt229.2.2.1))) else (if x222002 > 0 then (if x7 = true then (if x228000 ≥ x222000 then (if x228001 ≥ x222001 then (if (x229000 == x228000 && (x229001 == x228001 && (x229002 == x228002))) = true then (if x9 = (wrap64 (x6)) then ((meter_Right.f x229000 x229001 x229002).bind fun t234 => (some t234)) else (some false)) else (some false)) else (some false)) else (some false)) else (some false)) else (if x7 = true then (if x228000 ≥ x222000 then (if x228001 ≥ x222001 then (if (x229000 == x228000 && (x229001 == x228001 && (x229002 == x228002))) = true then (if x9 = 0 then ((meter_Right.f x229000 x229001 x229002).bind fun t235 => (some t235)) else (some false)) else (some false)) else (some false)) else (some false)) else (some false)))
def portreevelaw17_MeterUp.f (k : Nat) (a0_0 : Int) (a0_1 : Int) (a0_2 : Int) (a0_3 : Int) (a0_4 : Int) (a0_5 : Int) : Option (Bool) := (portreevelaw17_shown.f k).bind fun t222 => ((portreeveref17_Right.f a0_0 a0_1 a0_2).bind fun t223 => (if t223 = true then ((meter_Count.f a0_0 a0_1 a0_2 a0_3 a0_4).bind fun bt224 => (portreevelaw17_MeterUp.l0 k a0_5 t222 0 0 a0_0 a0_1 a0_2 bt224.1 bt224.2.1 bt224.2.2 bt224.1 bt224.2.1 bt224.2.2)) else (some t222)))
theorem portreevelaw17_MeterUp.mono_l : ∀ k, (∀ y0 y1 y2 y3 y4 y5 y6 y7 y8 y9 y10 y11 y12, LeO (portreevelaw17_MeterUp.l0 k y0 y1 y2 y3 y4 y5 y6 y7 y8 y9 y10 y11 y12) (portreevelaw17_MeterUp.l0 (k + 1) y0 y1 y2 y3 y4 y5 y6 y7 y8 y9 y10 y11 y12))
  | 0 => fun _ _ _ _ _ _ _ _ _ _ _ _ _ r h => by simp [portreevelaw17_MeterUp.l0] at h
  | k + 1 => by
    have ih0 := portreevelaw17_MeterUp.mono_l k
    · intro y0 y1 y2 y3 y4 y5 y6 y7 y8 y9 y10 y11 y12
      unfold portreevelaw17_MeterUp.l0
      repeat' first
      | (with_reducible exact ih0 _ _ _ _ _ _ _ _ _ _ _ _ _)
      | (with_reducible exact portreevelaw17_shown.mono _)
      | (with_reducible exact LeO.refl _)
      | (with_reducible exact LeO.none _)
      | (with_reducible refine LeO.ite ?_ ?_)
      | (with_reducible refine LeO.bind ?_ (fun _ => ?_))
      | exact ih0 _ _ _ _ _ _ _ _ _ _ _ _ _
      | exact portreevelaw17_shown.mono _
      | exact LeO.none _
      | refine LeO.ite ?_ ?_
      | refine LeO.bind ?_ (fun _ => ?_)
theorem portreevelaw17_MeterUp.mono : ∀ a0 a1 a2 a3 a4 a5 k, LeO (portreevelaw17_MeterUp.f k a0 a1 a2 a3 a4 a5) (portreevelaw17_MeterUp.f (k + 1) a0 a1 a2 a3 a4 a5) := by
  intro a0 a1 a2 a3 a4 a5 k
  have ih0 := portreevelaw17_MeterUp.mono_l k
  unfold portreevelaw17_MeterUp.f
  repeat' first
      | (with_reducible exact ih0 _ _ _ _ _ _ _ _ _ _ _ _ _)
      | (with_reducible exact portreevelaw17_shown.mono _)
      | (with_reducible exact LeO.refl _)
      | (with_reducible exact LeO.none _)
      | (with_reducible refine LeO.ite ?_ ?_)
      | (with_reducible refine LeO.bind ?_ (fun _ => ?_))
      | exact ih0 _ _ _ _ _ _ _ _ _ _ _ _ _
      | exact portreevelaw17_shown.mono _
      | exact LeO.none _
      | refine LeO.ite ?_ ?_
      | refine LeO.bind ?_ (fun _ => ?_)
set_option maxHeartbeats 8000000 in
set_option maxRecDepth 100000 in
theorem portreevelaw17_MeterUp.calls (k : Nat) (a0_0 : Int) (a0_1 : Int) (a0_2 : Int) (a0_3 : Int) (a0_4 : Int) (a0_5 : Int) (r : Bool) (w : World) (hlaw_ : Aside0 (r = true)) (h : portreevelaw17_MeterUp.f k a0_0 a0_1 a0_2 a0_3 a0_4 a0_5 = some r) :
    Calls Try.prog 4 #[.agg #[.int .u64 a0_0, .int .u64 a0_1, .int .i64 a0_2, .int .i64 a0_3, .int .i64 a0_4, .int .u8 a0_5]] w fun e w' => e = .returned (.bool r) ∧ Below w.heap.size w w' := by
  have hu40 := Try.underlying40
  have hu24 := Try.underlying24
  have HB := Aside0.mk (Below.refl w.heap.size w)
  have H : ((portreevelaw17_shown.f k).bind fun t222 => ((portreeveref17_Right.f a0_0 a0_1 a0_2).bind fun t223 => (if t223 = true then ((meter_Count.f a0_0 a0_1 a0_2 a0_3 a0_4).bind fun bt224 => (portreevelaw17_MeterUp.l0 k a0_5 t222 0 0 a0_0 a0_1 a0_2 bt224.1 bt224.2.1 bt224.2.2 bt224.1 bt224.2.1 bt224.2.2)) else (some t222)))) = some r := h
  clear h
  replace H := Option.bind_eq_some_iff.mp H
  obtain ⟨t222, A20, H⟩ := H
  replace H : ((portreeveref17_Right.f a0_0 a0_1 a0_2).bind fun t223 => (if t223 = true then ((meter_Count.f a0_0 a0_1 a0_2 a0_3 a0_4).bind fun bt224 => (portreevelaw17_MeterUp.l0 k a0_5 t222 0 0 a0_0 a0_1 a0_2 bt224.1 bt224.2.1 bt224.2.2 bt224.1 bt224.2.1 bt224.2.2)) else (some t222))) = some r := H
  have A2 := Aside0.mk A20
  clear A20
  replace H := Option.bind_eq_some_iff.mp H
  obtain ⟨t223, A30, H⟩ := H
  replace H : (if t223 = true then ((meter_Count.f a0_0 a0_1 a0_2 a0_3 a0_4).bind fun bt224 => (portreevelaw17_MeterUp.l0 k a0_5 t222 0 0 a0_0 a0_1 a0_2 bt224.1 bt224.2.1 bt224.2.2 bt224.1 bt224.2.1 bt224.2.2)) else (some t222)) = some r := H
  have A3 := Aside0.mk A30
  clear A30
  by_cases c4 : t223 = true
  · subst c4
    have H1 : ((meter_Count.f a0_0 a0_1 a0_2 a0_3 a0_4).bind fun bt224 => (portreevelaw17_MeterUp.l0 k a0_5 t222 0 0 a0_0 a0_1 a0_2 bt224.1 bt224.2.1 bt224.2.2 bt224.1 bt224.2.1 bt224.2.2)) = some r := by rw [if_pos rfl] at H; exact H
    clear H
    have H := H1
    clear H1
    replace H := Option.bind_eq_some_iff.mp H
    obtain ⟨⟨t224, t225, t226⟩, A50, H⟩ := H
    replace H : (portreevelaw17_MeterUp.l0 k a0_5 t222 0 0 a0_0 a0_1 a0_2 t224 t225 t226 t224 t225 t226) = some r := H
    have A5 := Aside0.mk A50
    clear A50
    have H' := Aside0.mk H
    clear H
    go_enter Try.func4, Try.ntmps4
    go_wp2_with (first | ((with_reducible refine gate_dst (N := 1) rfl ?_); refine box_event ?hg (N := 1) ?hd (cs := #[.int .u64 a0_0, .int .u64 a0_1, .int .i64 a0_2, .int .i64 a0_3, .int .i64 a0_4, .int .u8 a0_5]) (t := 40) ?hr ?_; (case hd => rfl); (case hg => rfl); (case hr => first | (go_simp; done) | (go_simp; rfl)); intro gb220 hg w6 hbox hb; have n0_ := Aside0.mk (below_step (by repeat (first | (with_reducible first | exact HB.out | apply pA | apply pN | apply pD) | exact HB.out)) hb); have n1_ := Aside0.mk (hbox); have n2_ := Aside0.mk ((by rw [hg]; exact (below_size (by repeat (first | (with_reducible first | exact HB.out | apply pA | apply pN | apply pD) | exact HB.out))) : w.heap.size ≤ gb220)); have n3_ := Aside0.mk ((by rw [hg]; exact (below_size (by repeat (first | (with_reducible first | exact HB.out | apply pA | apply pN | apply pD) | exact HB.out))) : w.heap.size ≤ gb220)); clear HB; have HB := n0_; have BK220 := n1_; have GW220 := n2_; have GE220 := n3_; clear n0_ n1_ n2_ n3_; clear hb hbox hg; have hcz7_0 : w6.cell? ⟨gb220, 0, none⟩ = some (.int .u64 a0_0) := (blk_cell BK220.out 0).trans rfl; have hcz7_1 : w6.cell? ⟨gb220, 1, none⟩ = some (.int .u64 a0_1) := (blk_cell BK220.out 1).trans rfl; have hcz7_2 : w6.cell? ⟨gb220, 2, none⟩ = some (.int .i64 a0_2) := (blk_cell BK220.out 2).trans rfl; have hcz7_3 : w6.cell? ⟨gb220, 3, none⟩ = some (.int .i64 a0_3) := (blk_cell BK220.out 3).trans rfl; have hcz7_4 : w6.cell? ⟨gb220, 4, none⟩ = some (.int .i64 a0_4) := (blk_cell BK220.out 4).trans rfl; have hcz7_5 : w6.cell? ⟨gb220, 5, none⟩ = some (.int .u8 a0_5) := (blk_cell BK220.out 5).trans rfl; have hfz7_0 := blk_frozen BK220.out 0; have hfz7_1 := blk_frozen BK220.out 1; have hfz7_2 := blk_frozen BK220.out 2; have hfz7_3 := blk_frozen BK220.out 3; have hfz7_4 := blk_frozen BK220.out 4; have hfz7_5 := blk_frozen BK220.out 5) | ((with_reducible refine gate_dst (N := 3) rfl ?_); refine box_event ?hg (N := 3) ?hd (cs := #[.int .u64 0, .int .u64 0, .int .i64 0]) (t := 24) ?hr ?_; (case hd => rfl); (case hg => rfl); (case hr => first | (go_simp; done) | (go_simp; rfl)); intro gb221 hg w8 hbox hb; have n0_ := Aside0.mk (blk_below (g := gb220) (o := .cells #[.int .u64 a0_0, .int .u64 a0_1, .int .i64 a0_2, .int .i64 a0_3, .int .i64 a0_4, .int .u8 a0_5] 40 (0, 0)) (by (with_reducible repeat (first | refine qN ?_ _ | refine qD ?_ | refine qA ?_ _)); exact BK220.out) hb); have n1_ := Aside0.mk (below_step (by repeat (first | (with_reducible first | exact HB.out | apply pA | apply pN | apply pD | refine pS ?_ GE220.out) | exact HB.out)) hb); have n2_ := Aside0.mk (hbox); have n3_ := Aside0.mk ((by rw [hg]; exact (below_size (by repeat (first | (with_reducible first | exact HB.out | apply pA | apply pN | apply pD | refine pS ?_ GE220.out) | exact HB.out))) : w.heap.size ≤ gb221)); have n4_ := Aside0.mk ((by rw [hg]; exact (below_size (by repeat (first | (with_reducible first | exact HB.out | apply pA | apply pN | apply pD | refine pS ?_ GE220.out) | exact HB.out))) : w.heap.size ≤ gb221)); have n5_ := Aside0.mk ((by rw [hg]; exact Nat.ne_of_lt (blk_lt (g := gb220) (o := .cells #[.int .u64 a0_0, .int .u64 a0_1, .int .i64 a0_2, .int .i64 a0_3, .int .i64 a0_4, .int .u8 a0_5] 40 (0, 0)) (by (with_reducible repeat (first | refine qN ?_ _ | refine qD ?_ | refine qA ?_ _)); exact BK220.out)) : gb220 ≠ gb221)); have n6_ := Aside0.mk ((by rw [hg]; exact Nat.ne_of_gt (blk_lt (g := gb220) (o := .cells #[.int .u64 a0_0, .int .u64 a0_1, .int .i64 a0_2, .int .i64 a0_3, .int .i64 a0_4, .int .u8 a0_5] 40 (0, 0)) (by (with_reducible repeat (first | refine qN ?_ _ | refine qD ?_ | refine qA ?_ _)); exact BK220.out)) : gb221 ≠ gb220)); clear BK220; clear HB; have BK220 := n0_; have HB := n1_; have BK221 := n2_; have GW221 := n3_; have GE221 := n4_; have NB220_221 := n5_; have NB221_220 := n6_; clear n0_ n1_ n2_ n3_ n4_ n5_ n6_; clear hb hbox hg; have hnb9 := NB221_220.out; have hnc9 := NB220_221.out; have hcz10_0 : w8.cell? ⟨gb221, 0, none⟩ = some (.int .u64 0) := (blk_cell BK221.out 0).trans rfl; have hcz10_1 : w8.cell? ⟨gb221, 1, none⟩ = some (.int .u64 0) := (blk_cell BK221.out 1).trans rfl; have hcz10_2 : w8.cell? ⟨gb221, 2, none⟩ = some (.int .i64 0) := (blk_cell BK221.out 2).trans rfl; have hfz10_0 := blk_frozen BK221.out 0; have hfz10_1 := blk_frozen BK221.out 1; have hfz10_2 := blk_frozen BK221.out 2; have hcz11_0 : w8.cell? ⟨gb220, 0, none⟩ = some (.int .u64 a0_0) := (blk_cell BK220.out 0).trans rfl; have hcz11_1 : w8.cell? ⟨gb220, 1, none⟩ = some (.int .u64 a0_1) := (blk_cell BK220.out 1).trans rfl; have hcz11_2 : w8.cell? ⟨gb220, 2, none⟩ = some (.int .i64 a0_2) := (blk_cell BK220.out 2).trans rfl; have hcz11_3 : w8.cell? ⟨gb220, 3, none⟩ = some (.int .i64 a0_3) := (blk_cell BK220.out 3).trans rfl; have hcz11_4 : w8.cell? ⟨gb220, 4, none⟩ = some (.int .i64 a0_4) := (blk_cell BK220.out 4).trans rfl; have hcz11_5 : w8.cell? ⟨gb220, 5, none⟩ = some (.int .u8 a0_5) := (blk_cell BK220.out 5).trans rfl; have hfz11_0 := blk_frozen BK220.out 0; have hfz11_1 := blk_frozen BK220.out 1; have hfz11_2 := blk_frozen BK220.out 2; have hfz11_3 := blk_frozen BK220.out 3; have hfz11_4 := blk_frozen BK220.out 4; have hfz11_5 := blk_frozen BK220.out 5) | ((with_reducible refine gate_callee (f := 9) rfl ?_); refine goesL_ (some 23) rfl rfl Try.func9 (by kernel_rfl) rfl #[] rfl (by (try simp only [List.map_toArray, List.map_cons, List.map_nil]); first | done | rfl | (simp only [List.length_drop, List.length_take]; rfl)) ?_; (with_reducible refine (portreevelaw17_shown.calls k  t222 _ A2.out).mono ?_); rintro e w12 ⟨rfl, hb⟩; refine ⟨_, rfl, ?_⟩; have n0_ := Aside0.mk (blk_below (g := gb220) (o := .cells #[.int .u64 a0_0, .int .u64 a0_1, .int .i64 a0_2, .int .i64 a0_3, .int .i64 a0_4, .int .u8 a0_5] 40 (0, 0)) (by (with_reducible repeat (first | refine qN ?_ _ | refine qD ?_ | refine qA ?_ _)); refine blk_far ?_ NB220_221.out _; (with_reducible repeat (first | refine qN ?_ _ | refine qD ?_ | refine qA ?_ _)); refine blk_far ?_ NB220_221.out _; (with_reducible repeat (first | refine qN ?_ _ | refine qD ?_ | refine qA ?_ _)); refine blk_far ?_ NB220_221.out _; (with_reducible repeat (first | refine qN ?_ _ | refine qD ?_ | refine qA ?_ _)); exact BK220.out) hb); have n1_ := Aside0.mk (blk_below (g := gb221) (o := .cells #[.int .u64 a0_0, .int .u64 a0_1, .int .i64 a0_2] 24 (0, 0)) (by (with_reducible repeat (first | refine qN ?_ _ | refine qD ?_ | refine qA ?_ _)); refine blk_put (cs := #[.int .u64 a0_0, .int .u64 a0_1, .int .i64 0]) ?_ 2 _ rfl; (with_reducible repeat (first | refine qN ?_ _ | refine qD ?_ | refine qA ?_ _)); refine blk_put (cs := #[.int .u64 a0_0, .int .u64 0, .int .i64 0]) ?_ 1 _ rfl; (with_reducible repeat (first | refine qN ?_ _ | refine qD ?_ | refine qA ?_ _)); refine blk_put (cs := #[.int .u64 0, .int .u64 0, .int .i64 0]) ?_ 0 _ rfl; (with_reducible repeat (first | refine qN ?_ _ | refine qD ?_ | refine qA ?_ _)); exact BK221.out) hb); have n2_ := Aside0.mk (below_step (by repeat (first | (with_reducible first | exact HB.out | apply pA | apply pN | apply pD | refine pS ?_ GE220.out | refine pS ?_ GE221.out) | exact HB.out)) hb); clear BK220; clear BK221; clear HB; have BK220 := n0_; have BK221 := n1_; have HB := n2_; clear n0_ n1_ n2_; (try clear hb); (try clear hb2); (try clear hk); (try clear hi); have hcz13_0 : w12.cell? ⟨gb221, 0, none⟩ = some (.int .u64 a0_0) := (blk_cell BK221.out 0).trans rfl; have hcz13_1 : w12.cell? ⟨gb221, 1, none⟩ = some (.int .u64 a0_1) := (blk_cell BK221.out 1).trans rfl; have hcz13_2 : w12.cell? ⟨gb221, 2, none⟩ = some (.int .i64 a0_2) := (blk_cell BK221.out 2).trans rfl; have hfz13_0 := blk_frozen BK221.out 0; have hfz13_1 := blk_frozen BK221.out 1; have hfz13_2 := blk_frozen BK221.out 2) | ((with_reducible refine gate_callee (f := 10) rfl ?_); refine goesL_ (some 25) rfl rfl Try.func10 (by kernel_rfl) rfl #[.agg #[.int .u64 a0_0, .int .u64 a0_1, .int .i64 a0_2]] rfl (by (try simp only [List.map_toArray, List.map_cons, List.map_nil]); first | done | rfl | (simp only [List.length_drop, List.length_take]; rfl)) ?_; (with_reducible refine (portreeveref17_Right.calls a0_0 a0_1 a0_2 true _ A3.out).mono ?_); rintro e w14 ⟨rfl, hb⟩; refine ⟨_, rfl, ?_⟩; have n0_ := Aside0.mk (blk_below (g := gb220) (o := .cells #[.int .u64 a0_0, .int .u64 a0_1, .int .i64 a0_2, .int .i64 a0_3, .int .i64 a0_4, .int .u8 a0_5] 40 (0, 0)) (by (with_reducible repeat (first | refine qN ?_ _ | refine qD ?_ | refine qA ?_ _)); exact BK220.out) hb); have n1_ := Aside0.mk (blk_below (g := gb221) (o := .cells #[.int .u64 a0_0, .int .u64 a0_1, .int .i64 a0_2] 24 (0, 0)) (by (with_reducible repeat (first | refine qN ?_ _ | refine qD ?_ | refine qA ?_ _)); exact BK221.out) hb); have n2_ := Aside0.mk (below_step (by repeat (first | (with_reducible first | exact HB.out | apply pA | apply pN | apply pD | refine pS ?_ GE220.out | refine pS ?_ GE221.out) | exact HB.out)) hb); clear BK220; clear BK221; clear HB; have BK220 := n0_; have BK221 := n1_; have HB := n2_; clear n0_ n1_ n2_; (try clear hb); (try clear hb2); (try clear hk); (try clear hi); have hcz15_0 : w14.cell? ⟨gb221, 0, none⟩ = some (.int .u64 a0_0) := (blk_cell BK221.out 0).trans rfl; have hcz15_1 : w14.cell? ⟨gb221, 1, none⟩ = some (.int .u64 a0_1) := (blk_cell BK221.out 1).trans rfl; have hcz15_2 : w14.cell? ⟨gb221, 2, none⟩ = some (.int .i64 a0_2) := (blk_cell BK221.out 2).trans rfl; have hfz15_0 := blk_frozen BK221.out 0; have hfz15_1 := blk_frozen BK221.out 1; have hfz15_2 := blk_frozen BK221.out 2) | ((with_reducible refine gate_callee (f := 16) rfl ?_); refine goesL_ (some 31) rfl rfl Try.func16 (by kernel_rfl) rfl #[.agg #[.int .u64 a0_0, .int .u64 a0_1, .int .i64 a0_2], .int .i64 a0_3, .int .i64 a0_4] rfl (by (try simp only [List.map_toArray, List.map_cons, List.map_nil]); first | done | rfl | (simp only [List.length_drop, List.length_take]; rfl)) ?_; (with_reducible refine (meter_Count.calls a0_0 a0_1 a0_2 a0_3 a0_4 t224 t225 t226 _ A5.out).mono ?_); rintro e w16 ⟨rfl, hb⟩; refine ⟨_, rfl, ?_⟩; have n0_ := Aside0.mk (blk_below (g := gb220) (o := .cells #[.int .u64 a0_0, .int .u64 a0_1, .int .i64 a0_2, .int .i64 a0_3, .int .i64 a0_4, .int .u8 a0_5] 40 (0, 0)) (by (with_reducible repeat (first | refine qN ?_ _ | refine qD ?_ | refine qA ?_ _)); exact BK220.out) hb); have n1_ := Aside0.mk (blk_below (g := gb221) (o := .cells #[.int .u64 a0_0, .int .u64 a0_1, .int .i64 a0_2] 24 (0, 0)) (by (with_reducible repeat (first | refine qN ?_ _ | refine qD ?_ | refine qA ?_ _)); exact BK221.out) hb); have n2_ := Aside0.mk (below_step (by repeat (first | (with_reducible first | exact HB.out | apply pA | apply pN | apply pD | refine pS ?_ GE220.out | refine pS ?_ GE221.out) | exact HB.out)) hb); clear BK220; clear BK221; clear HB; have BK220 := n0_; have BK221 := n1_; have HB := n2_; clear n0_ n1_ n2_; (try clear hb); (try clear hb2); (try clear hk); (try clear hi)) | ((with_reducible refine gate_dst (N := 8) rfl ?_); refine box_event ?hg (N := 8) ?hd (cs := #[.int .u64 0, .int .u64 0, .int .i64 0]) (t := 24) ?hr ?_; (case hd => rfl); (case hg => rfl); (case hr => first | (go_simp; done) | (go_simp; rfl)); intro gb227 hg w17 hbox hb; have n0_ := Aside0.mk (blk_below (g := gb220) (o := .cells #[.int .u64 a0_0, .int .u64 a0_1, .int .i64 a0_2, .int .i64 a0_3, .int .i64 a0_4, .int .u8 a0_5] 40 (0, 0)) (by (with_reducible repeat (first | refine qN ?_ _ | refine qD ?_ | refine qA ?_ _)); exact BK220.out) hb); have n1_ := Aside0.mk (blk_below (g := gb221) (o := .cells #[.int .u64 a0_0, .int .u64 a0_1, .int .i64 a0_2] 24 (0, 0)) (by (with_reducible repeat (first | refine qN ?_ _ | refine qD ?_ | refine qA ?_ _)); exact BK221.out) hb); have n2_ := Aside0.mk (below_step (by repeat (first | (with_reducible first | exact HB.out | apply pA | apply pN | apply pD | refine pS ?_ GE220.out | refine pS ?_ GE221.out) | exact HB.out)) hb); have n3_ := Aside0.mk (hbox); have n4_ := Aside0.mk ((by rw [hg]; exact (below_size (by repeat (first | (with_reducible first | exact HB.out | apply pA | apply pN | apply pD | refine pS ?_ GE220.out | refine pS ?_ GE221.out) | exact HB.out))) : w.heap.size ≤ gb227)); have n5_ := Aside0.mk ((by rw [hg]; exact (below_size (by repeat (first | (with_reducible first | exact HB.out | apply pA | apply pN | apply pD | refine pS ?_ GE220.out | refine pS ?_ GE221.out) | exact HB.out))) : w.heap.size ≤ gb227)); have n6_ := Aside0.mk ((by rw [hg]; exact Nat.ne_of_lt (blk_lt (g := gb220) (o := .cells #[.int .u64 a0_0, .int .u64 a0_1, .int .i64 a0_2, .int .i64 a0_3, .int .i64 a0_4, .int .u8 a0_5] 40 (0, 0)) (by (with_reducible repeat (first | refine qN ?_ _ | refine qD ?_ | refine qA ?_ _)); exact BK220.out)) : gb220 ≠ gb227)); have n7_ := Aside0.mk ((by rw [hg]; exact Nat.ne_of_gt (blk_lt (g := gb220) (o := .cells #[.int .u64 a0_0, .int .u64 a0_1, .int .i64 a0_2, .int .i64 a0_3, .int .i64 a0_4, .int .u8 a0_5] 40 (0, 0)) (by (with_reducible repeat (first | refine qN ?_ _ | refine qD ?_ | refine qA ?_ _)); exact BK220.out)) : gb227 ≠ gb220)); have n8_ := Aside0.mk ((by rw [hg]; exact Nat.ne_of_lt (blk_lt (g := gb221) (o := .cells #[.int .u64 a0_0, .int .u64 a0_1, .int .i64 a0_2] 24 (0, 0)) (by (with_reducible repeat (first | refine qN ?_ _ | refine qD ?_ | refine qA ?_ _)); exact BK221.out)) : gb221 ≠ gb227)); have n9_ := Aside0.mk ((by rw [hg]; exact Nat.ne_of_gt (blk_lt (g := gb221) (o := .cells #[.int .u64 a0_0, .int .u64 a0_1, .int .i64 a0_2] 24 (0, 0)) (by (with_reducible repeat (first | refine qN ?_ _ | refine qD ?_ | refine qA ?_ _)); exact BK221.out)) : gb227 ≠ gb221)); clear BK220; clear BK221; clear HB; have BK220 := n0_; have BK221 := n1_; have HB := n2_; have BK227 := n3_; have GW227 := n4_; have GE227 := n5_; have NB220_227 := n6_; have NB227_220 := n7_; have NB221_227 := n8_; have NB227_221 := n9_; clear n0_ n1_ n2_ n3_ n4_ n5_ n6_ n7_ n8_ n9_; clear hb hbox hg; have hnb18 := NB227_220.out; have hnc18 := NB220_227.out; have hnb19 := NB227_221.out; have hnc19 := NB221_227.out; have hcz20_0 : w17.cell? ⟨gb227, 0, none⟩ = some (.int .u64 0) := (blk_cell BK227.out 0).trans rfl; have hcz20_1 : w17.cell? ⟨gb227, 1, none⟩ = some (.int .u64 0) := (blk_cell BK227.out 1).trans rfl; have hcz20_2 : w17.cell? ⟨gb227, 2, none⟩ = some (.int .i64 0) := (blk_cell BK227.out 2).trans rfl; have hfz20_0 := blk_frozen BK227.out 0; have hfz20_1 := blk_frozen BK227.out 1; have hfz20_2 := blk_frozen BK227.out 2) | ((with_reducible refine gate_dst (N := 10) rfl ?_); refine box_event ?hg (N := 10) ?hd (cs := #[.int .u64 0, .int .u64 0, .int .i64 0]) (t := 24) ?hr ?_; (case hd => rfl); (case hg => rfl); (case hr => first | (go_simp; done) | (go_simp; rfl)); intro gb228 hg w21 hbox hb; have n0_ := Aside0.mk (blk_below (g := gb220) (o := .cells #[.int .u64 a0_0, .int .u64 a0_1, .int .i64 a0_2, .int .i64 a0_3, .int .i64 a0_4, .int .u8 a0_5] 40 (0, 0)) (by (with_reducible repeat (first | refine qN ?_ _ | refine qD ?_ | refine qA ?_ _)); refine blk_far ?_ NB220_227.out _; (with_reducible repeat (first | refine qN ?_ _ | refine qD ?_ | refine qA ?_ _)); refine blk_far ?_ NB220_227.out _; (with_reducible repeat (first | refine qN ?_ _ | refine qD ?_ | refine qA ?_ _)); refine blk_far ?_ NB220_227.out _; (with_reducible repeat (first | refine qN ?_ _ | refine qD ?_ | refine qA ?_ _)); exact BK220.out) hb); have n1_ := Aside0.mk (blk_below (g := gb221) (o := .cells #[.int .u64 a0_0, .int .u64 a0_1, .int .i64 a0_2] 24 (0, 0)) (by (with_reducible repeat (first | refine qN ?_ _ | refine qD ?_ | refine qA ?_ _)); refine blk_far ?_ NB221_227.out _; (with_reducible repeat (first | refine qN ?_ _ | refine qD ?_ | refine qA ?_ _)); refine blk_far ?_ NB221_227.out _; (with_reducible repeat (first | refine qN ?_ _ | refine qD ?_ | refine qA ?_ _)); refine blk_far ?_ NB221_227.out _; (with_reducible repeat (first | refine qN ?_ _ | refine qD ?_ | refine qA ?_ _)); exact BK221.out) hb); have n2_ := Aside0.mk (blk_below (g := gb227) (o := .cells #[.int .u64 t224, .int .u64 t225, .int .i64 t226] 24 (0, 0)) (by (with_reducible repeat (first | refine qN ?_ _ | refine qD ?_ | refine qA ?_ _)); refine blk_put (cs := #[.int .u64 t224, .int .u64 t225, .int .i64 0]) ?_ 2 _ rfl; (with_reducible repeat (first | refine qN ?_ _ | refine qD ?_ | refine qA ?_ _)); refine blk_put (cs := #[.int .u64 t224, .int .u64 0, .int .i64 0]) ?_ 1 _ rfl; (with_reducible repeat (first | refine qN ?_ _ | refine qD ?_ | refine qA ?_ _)); refine blk_put (cs := #[.int .u64 0, .int .u64 0, .int .i64 0]) ?_ 0 _ rfl; (with_reducible repeat (first | refine qN ?_ _ | refine qD ?_ | refine qA ?_ _)); exact BK227.out) hb); have n3_ := Aside0.mk (below_step (by repeat (first | (with_reducible first | exact HB.out | apply pA | apply pN | apply pD | refine pS ?_ GE220.out | refine pS ?_ GE221.out | refine pS ?_ GE227.out) | exact HB.out)) hb); have n4_ := Aside0.mk (hbox); have n5_ := Aside0.mk ((by rw [hg]; exact (below_size (by repeat (first | (with_reducible first | exact HB.out | apply pA | apply pN | apply pD | refine pS ?_ GE220.out | refine pS ?_ GE221.out | refine pS ?_ GE227.out) | exact HB.out))) : w.heap.size ≤ gb228)); have n6_ := Aside0.mk ((by rw [hg]; exact (below_size (by repeat (first | (with_reducible first | exact HB.out | apply pA | apply pN | apply pD | refine pS ?_ GE220.out | refine pS ?_ GE221.out | refine pS ?_ GE227.out) | exact HB.out))) : w.heap.size ≤ gb228)); have n7_ := Aside0.mk ((by rw [hg]; exact Nat.ne_of_lt (blk_lt (g := gb220) (o := .cells #[.int .u64 a0_0, .int .u64 a0_1, .int .i64 a0_2, .int .i64 a0_3, .int .i64 a0_4, .int .u8 a0_5] 40 (0, 0)) (by (with_reducible repeat (first | refine qN ?_ _ | refine qD ?_ | refine qA ?_ _)); refine blk_far ?_ NB220_227.out _; (with_reducible repeat (first | refine qN ?_ _ | refine qD ?_ | refine qA ?_ _)); refine blk_far ?_ NB220_227.out _; (with_reducible repeat (first | refine qN ?_ _ | refine qD ?_ | refine qA ?_ _)); refine blk_far ?_ NB220_227.out _; (with_reducible repeat (first | refine qN ?_ _ | refine qD ?_ | refine qA ?_ _)); exact BK220.out)) : gb220 ≠ gb228)); have n8_ := Aside0.mk ((by rw [hg]; exact Nat.ne_of_gt (blk_lt (g := gb220) (o := .cells #[.int .u64 a0_0, .int .u64 a0_1, .int .i64 a0_2, .int .i64 a0_3, .int .i64 a0_4, .int .u8 a0_5] 40 (0, 0)) (by (with_reducible repeat (first | refine qN ?_ _ | refine qD ?_ | refine qA ?_ _)); refine blk_far ?_ NB220_227.out _; (with_reducible repeat (first | refine qN ?_ _ | refine qD ?_ | refine qA ?_ _)); refine blk_far ?_ NB220_227.out _; (with_reducible repeat (first | refine qN ?_ _ | refine qD ?_ | refine qA ?_ _)); refine blk_far ?_ NB220_227.out _; (with_reducible repeat (first | refine qN ?_ _ | refine qD ?_ | refine qA ?_ _)); exact BK220.out)) : gb228 ≠ gb220)); have n9_ := Aside0.mk ((by rw [hg]; exact Nat.ne_of_lt (blk_lt (g := gb221) (o := .cells #[.int .u64 a0_0, .int .u64 a0_1, .int .i64 a0_2] 24 (0, 0)) (by (with_reducible repeat (first | refine qN ?_ _ | refine qD ?_ | refine qA ?_ _)); refine blk_far ?_ NB221_227.out _; (with_reducible repeat (first | refine qN ?_ _ | refine qD ?_ | refine qA ?_ _)); refine blk_far ?_ NB221_227.out _; (with_reducible repeat (first | refine qN ?_ _ | refine qD ?_ | refine qA ?_ _)); refine blk_far ?_ NB221_227.out _; (with_reducible repeat (first | refine qN ?_ _ | refine qD ?_ | refine qA ?_ _)); exact BK221.out)) : gb221 ≠ gb228)); have n10_ := Aside0.mk ((by rw [hg]; exact Nat.ne_of_gt (blk_lt (g := gb221) (o := .cells #[.int .u64 a0_0, .int .u64 a0_1, .int .i64 a0_2] 24 (0, 0)) (by (with_reducible repeat (first | refine qN ?_ _ | refine qD ?_ | refine qA ?_ _)); refine blk_far ?_ NB221_227.out _; (with_reducible repeat (first | refine qN ?_ _ | refine qD ?_ | refine qA ?_ _)); refine blk_far ?_ NB221_227.out _; (with_reducible repeat (first | refine qN ?_ _ | refine qD ?_ | refine qA ?_ _)); refine blk_far ?_ NB221_227.out _; (with_reducible repeat (first | refine qN ?_ _ | refine qD ?_ | refine qA ?_ _)); exact BK221.out)) : gb228 ≠ gb221)); have n11_ := Aside0.mk ((by rw [hg]; exact Nat.ne_of_lt (blk_lt (g := gb227) (o := .cells #[.int .u64 t224, .int .u64 t225, .int .i64 t226] 24 (0, 0)) (by (with_reducible repeat (first | refine qN ?_ _ | refine qD ?_ | refine qA ?_ _)); refine blk_put (cs := #[.int .u64 t224, .int .u64 t225, .int .i64 0]) ?_ 2 _ rfl; (with_reducible repeat (first | refine qN ?_ _ | refine qD ?_ | refine qA ?_ _)); refine blk_put (cs := #[.int .u64 t224, .int .u64 0, .int .i64 0]) ?_ 1 _ rfl; (with_reducible repeat (first | refine qN ?_ _ | refine qD ?_ | refine qA ?_ _)); refine blk_put (cs := #[.int .u64 0, .int .u64 0, .int .i64 0]) ?_ 0 _ rfl; (with_reducible repeat (first | refine qN ?_ _ | refine qD ?_ | refine qA ?_ _)); exact BK227.out)) : gb227 ≠ gb228)); have n12_ := Aside0.mk ((by rw [hg]; exact Nat.ne_of_gt (blk_lt (g := gb227) (o := .cells #[.int .u64 t224, .int .u64 t225, .int .i64 t226] 24 (0, 0)) (by (with_reducible repeat (first | refine qN ?_ _ | refine qD ?_ | refine qA ?_ _)); refine blk_put (cs := #[.int .u64 t224, .int .u64 t225, .int .i64 0]) ?_ 2 _ rfl; (with_reducible repeat (first | refine qN ?_ _ | refine qD ?_ | refine qA ?_ _)); refine blk_put (cs := #[.int .u64 t224, .int .u64 0, .int .i64 0]) ?_ 1 _ rfl; (with_reducible repeat (first | refine qN ?_ _ | refine qD ?_ | refine qA ?_ _)); refine blk_put (cs := #[.int .u64 0, .int .u64 0, .int .i64 0]) ?_ 0 _ rfl; (with_reducible repeat (first | refine qN ?_ _ | refine qD ?_ | refine qA ?_ _)); exact BK227.out)) : gb228 ≠ gb227)); clear BK220; clear BK221; clear BK227; clear HB; have BK220 := n0_; have BK221 := n1_; have BK227 := n2_; have HB := n3_; have BK228 := n4_; have GW228 := n5_; have GE228 := n6_; have NB220_228 := n7_; have NB228_220 := n8_; have NB221_228 := n9_; have NB228_221 := n10_; have NB227_228 := n11_; have NB228_227 := n12_; clear n0_ n1_ n2_ n3_ n4_ n5_ n6_ n7_ n8_ n9_ n10_ n11_ n12_; clear hb hbox hg; have hnb22 := NB228_220.out; have hnc22 := NB220_228.out; have hnb23 := NB228_221.out; have hnc23 := NB221_228.out; have hnb24 := NB228_227.out; have hnc24 := NB227_228.out; have hcz25_0 : w21.cell? ⟨gb228, 0, none⟩ = some (.int .u64 0) := (blk_cell BK228.out 0).trans rfl; have hcz25_1 : w21.cell? ⟨gb228, 1, none⟩ = some (.int .u64 0) := (blk_cell BK228.out 1).trans rfl; have hcz25_2 : w21.cell? ⟨gb228, 2, none⟩ = some (.int .i64 0) := (blk_cell BK228.out 2).trans rfl; have hfz25_0 := blk_frozen BK228.out 0; have hfz25_1 := blk_frozen BK228.out 1; have hfz25_2 := blk_frozen BK228.out 2))
    go_loopg [9, 11] k (fun kq v9 v11 w' => ∃ (x9_1 : Int) (x11_1 : Int) (x229000_1 : Int) (x229001_1 : Int) (x229002_1 : Int), v9 = .int .i64 x9_1 ∧ v11 = .int .i64 x11_1 ∧ Aside0 (portreevelaw17_MeterUp.l0 kq a0_5 t222 x9_1 x11_1 a0_0 a0_1 a0_2 t224 t225 t226 x229000_1 x229001_1 x229002_1 = some r) ∧ Aside0 (kq ≤ k) ∧ Aside0 (w'.heap[gb220]? = some (.cells #[.int .u64 a0_0, .int .u64 a0_1, .int .i64 a0_2, .int .i64 a0_3, .int .i64 a0_4, .int .u8 a0_5] 40 (0, 0))) ∧ Aside0 (w'.heap[gb221]? = some (.cells #[.int .u64 a0_0, .int .u64 a0_1, .int .i64 a0_2] 24 (0, 0))) ∧ Aside0 (w'.heap[gb227]? = some (.cells #[.int .u64 t224, .int .u64 t225, .int .i64 t226] 24 (0, 0))) ∧ Aside0 (w'.heap[gb228]? = some (.cells #[.int .u64 x229000_1, .int .u64 x229001_1, .int .i64 x229002_1] 24 (0, 0))) ∧ Aside0 (Below w.heap.size w w'))
    case atStart => exact ⟨(0), (0), (t224), (t225), (t226), (by first | rfl | (simp; done) | (simp [*]; done)), (by first | rfl | (simp; done) | (simp [*]; done)), H', ⟨Nat.le_refl _⟩, ⟨by (with_reducible repeat (first | refine qN ?_ _ | refine qD ?_ | refine qA ?_ _)); refine blk_far ?_ NB220_228.out _; (with_reducible repeat (first | refine qN ?_ _ | refine qD ?_ | refine qA ?_ _)); refine blk_far ?_ NB220_228.out _; (with_reducible repeat (first | refine qN ?_ _ | refine qD ?_ | refine qA ?_ _)); refine blk_far ?_ NB220_228.out _; (with_reducible repeat (first | refine qN ?_ _ | refine qD ?_ | refine qA ?_ _)); exact BK220.out⟩, ⟨by (with_reducible repeat (first | refine qN ?_ _ | refine qD ?_ | refine qA ?_ _)); refine blk_far ?_ NB221_228.out _; (with_reducible repeat (first | refine qN ?_ _ | refine qD ?_ | refine qA ?_ _)); refine blk_far ?_ NB221_228.out _; (with_reducible repeat (first | refine qN ?_ _ | refine qD ?_ | refine qA ?_ _)); refine blk_far ?_ NB221_228.out _; (with_reducible repeat (first | refine qN ?_ _ | refine qD ?_ | refine qA ?_ _)); exact BK221.out⟩, ⟨by (with_reducible repeat (first | refine qN ?_ _ | refine qD ?_ | refine qA ?_ _)); refine blk_far ?_ NB227_228.out _; (with_reducible repeat (first | refine qN ?_ _ | refine qD ?_ | refine qA ?_ _)); refine blk_far ?_ NB227_228.out _; (with_reducible repeat (first | refine qN ?_ _ | refine qD ?_ | refine qA ?_ _)); refine blk_far ?_ NB227_228.out _; (with_reducible repeat (first | refine qN ?_ _ | refine qD ?_ | refine qA ?_ _)); exact BK227.out⟩, ⟨by (with_reducible repeat (first | refine qN ?_ _ | refine qD ?_ | refine qA ?_ _)); refine blk_put (cs := #[.int .u64 t224, .int .u64 t225, .int .i64 0]) ?_ 2 _ rfl; (with_reducible repeat (first | refine qN ?_ _ | refine qD ?_ | refine qA ?_ _)); refine blk_put (cs := #[.int .u64 t224, .int .u64 0, .int .i64 0]) ?_ 1 _ rfl; (with_reducible repeat (first | refine qN ?_ _ | refine qD ?_ | refine qA ?_ _)); refine blk_put (cs := #[.int .u64 0, .int .u64 0, .int .i64 0]) ?_ 0 _ rfl; (with_reducible repeat (first | refine qN ?_ _ | refine qD ?_ | refine qA ?_ _)); exact BK228.out⟩, ⟨by repeat (first | (with_reducible first | exact HB.out | apply pA | apply pN | apply pD | refine pS ?_ GE220.out | refine pS ?_ GE221.out | refine pS ?_ GE227.out | refine pS ?_ GE228.out) | exact HB.out)⟩⟩
    case round =>
      clear H'
      try clear c1
      try clear c2
      try clear p2
      try clear c4
      try clear c9
      try clear c10
      try clear c16
      try clear c18
      try clear c19
      try clear c22
      try clear c23
      try clear c24
      try clear hcz10_0
      try clear hcz10_1
      try clear hcz10_2
      try clear hcz11_0
      try clear hcz11_1
      try clear hcz11_2
      try clear hcz11_3
      try clear hcz11_4
      try clear hcz11_5
      try clear hcz13_0
      try clear hcz13_1
      try clear hcz13_2
      try clear hcz15_0
      try clear hcz15_1
      try clear hcz15_2
      try clear hcz20_0
      try clear hcz20_1
      try clear hcz20_2
      try clear hcz25_0
      try clear hcz25_1
      try clear hcz25_2
      try clear hcz7_0
      try clear hcz7_1
      try clear hcz7_2
      try clear hcz7_3
      try clear hcz7_4
      try clear hcz7_5
      try clear hfz10_0
      try clear hfz10_1
      try clear hfz10_2
      try clear hfz11_0
      try clear hfz11_1
      try clear hfz11_2
      try clear hfz11_3
      try clear hfz11_4
      try clear hfz11_5
      try clear hfz13_0
      try clear hfz13_1
      try clear hfz13_2
      try clear hfz15_0
      try clear hfz15_1
      try clear hfz15_2
      try clear hfz20_0
      try clear hfz20_1
      try clear hfz20_2
      try clear hfz25_0
      try clear hfz25_1
      try clear hfz25_2
      try clear hfz7_0
      try clear hfz7_1
      try clear hfz7_2
      try clear hfz7_3
      try clear hfz7_4
      try clear hfz7_5
      obtain ⟨x9_1, x11_1, x229000_1, x229001_1, x229002_1, rfl, rfl, HA, HK1, BK220, BK221, BK227, BK228, HB⟩ := hrel
      cases gk with
      | zero => exact absurd HA.out (by simp [portreevelaw17_MeterUp.l0])
      | succ k1 =>
        have H := HA.out
        clear HA
        simp only [portreevelaw17_MeterUp.l0] at H
        by_cases c26 : x11_1 < (wrap64 ((wrap64 (a0_5)) * 6))
        · rw [if_pos c26] at H
          have c26b0 : decide (x11_1 < (wrap64 ((wrap64 (a0_5)) * 6))) = true := decide_eq_true c26
          clear c26
          replace H := Option.bind_eq_some_iff.mp H
          obtain ⟨⟨t229, t230, t231, t232⟩, A270, H⟩ := H
          replace H : (if t232 = true then (portreevelaw17_MeterUp.l0 k1 a0_5 t222 (wrap64 (x9_1 + 1)) (wrap64 (x11_1 + 1)) a0_0 a0_1 a0_2 t224 t225 t226 t229 t230 t231) else (portreevelaw17_MeterUp.l0 k1 a0_5 t222 x9_1 (wrap64 (x11_1 + 1)) a0_0 a0_1 a0_2 t224 t225 t226 t229 t230 t231)) = some r := H
          have A27 := Aside0.mk A270
          clear A270
          by_cases c28 : t232 = true
          · subst c28
            have H1 : (portreevelaw17_MeterUp.l0 k1 a0_5 t222 (wrap64 (x9_1 + 1)) (wrap64 (x11_1 + 1)) a0_0 a0_1 a0_2 t224 t225 t226 t229 t230 t231) = some r := by rw [if_pos rfl] at H; exact H
            clear H
            have H := H1
            clear H1
            have H' := Aside0.mk H
            clear H
            have hnb29 := NB228_220.out
            have hnc29 := NB220_228.out
            have hnb30 := NB228_221.out
            have hnc30 := NB221_228.out
            have hnb31 := NB228_227.out
            have hnc31 := NB227_228.out
            have hcz32_0 : wr.cell? ⟨gb228, 0, none⟩ = some (.int .u64 x229000_1) := (blk_cell BK228.out 0).trans rfl
            have hcz32_1 : wr.cell? ⟨gb228, 1, none⟩ = some (.int .u64 x229001_1) := (blk_cell BK228.out 1).trans rfl
            have hcz32_2 : wr.cell? ⟨gb228, 2, none⟩ = some (.int .i64 x229002_1) := (blk_cell BK228.out 2).trans rfl
            have hfz32_0 := blk_frozen BK228.out 0
            have hfz32_1 := blk_frozen BK228.out 1
            have hfz32_2 := blk_frozen BK228.out 2
            go_wp2_with (first | ((with_reducible refine gate_callee (f := 14) rfl ?_); refine goesL_ (some 42) rfl rfl Try.func14 (by kernel_rfl) rfl #[.agg #[.int .u64 x229000_1, .int .u64 x229001_1, .int .i64 x229002_1]] rfl (by (try simp only [List.map_toArray, List.map_cons, List.map_nil]); first | done | rfl | (simp only [List.length_drop, List.length_take]; rfl)) ?_; (with_reducible refine (meter_Tick.calls x229000_1 x229001_1 x229002_1 t229 t230 t231 true _ A27.out).mono ?_); rintro e w33 ⟨rfl, hb⟩; refine ⟨_, rfl, ?_⟩; have n0_ := Aside0.mk (blk_below (g := gb220) (o := .cells #[.int .u64 a0_0, .int .u64 a0_1, .int .i64 a0_2, .int .i64 a0_3, .int .i64 a0_4, .int .u8 a0_5] 40 (0, 0)) (by (with_reducible repeat (first | refine qN ?_ _ | refine qD ?_ | refine qA ?_ _)); exact BK220.out) hb); have n1_ := Aside0.mk (blk_below (g := gb221) (o := .cells #[.int .u64 a0_0, .int .u64 a0_1, .int .i64 a0_2] 24 (0, 0)) (by (with_reducible repeat (first | refine qN ?_ _ | refine qD ?_ | refine qA ?_ _)); exact BK221.out) hb); have n2_ := Aside0.mk (blk_below (g := gb227) (o := .cells #[.int .u64 t224, .int .u64 t225, .int .i64 t226] 24 (0, 0)) (by (with_reducible repeat (first | refine qN ?_ _ | refine qD ?_ | refine qA ?_ _)); exact BK227.out) hb); have n3_ := Aside0.mk (blk_below (g := gb228) (o := .cells #[.int .u64 x229000_1, .int .u64 x229001_1, .int .i64 x229002_1] 24 (0, 0)) (by (with_reducible repeat (first | refine qN ?_ _ | refine qD ?_ | refine qA ?_ _)); exact BK228.out) hb); have n4_ := Aside0.mk (below_step (by repeat (first | (with_reducible first | exact HB.out | apply pA | apply pN | apply pD | refine pS ?_ GE220.out | refine pS ?_ GE221.out | refine pS ?_ GE227.out | refine pS ?_ GE228.out) | exact HB.out)) hb); clear BK220; clear BK221; clear BK227; clear BK228; clear HB; have BK220 := n0_; have BK221 := n1_; have BK227 := n2_; have BK228 := n3_; have HB := n4_; clear n0_ n1_ n2_ n3_ n4_; (try clear hb); (try clear hb2); (try clear hk); (try clear hi)) | ((with_reducible refine gate_dst (N := 12) rfl ?_); refine box_event ?hg (N := 12) ?hd (cs := #[.int .u64 0, .int .u64 0, .int .i64 0]) (t := 24) ?hr ?_; (case hd => rfl); (case hg => rfl); (case hr => first | (go_simp; done) | (go_simp; rfl)); intro gb233 hg w34 hbox hb; have n0_ := Aside0.mk (blk_below (g := gb220) (o := .cells #[.int .u64 a0_0, .int .u64 a0_1, .int .i64 a0_2, .int .i64 a0_3, .int .i64 a0_4, .int .u8 a0_5] 40 (0, 0)) (by (with_reducible repeat (first | refine qN ?_ _ | refine qD ?_ | refine qA ?_ _)); exact BK220.out) hb); have n1_ := Aside0.mk (blk_below (g := gb221) (o := .cells #[.int .u64 a0_0, .int .u64 a0_1, .int .i64 a0_2] 24 (0, 0)) (by (with_reducible repeat (first | refine qN ?_ _ | refine qD ?_ | refine qA ?_ _)); exact BK221.out) hb); have n2_ := Aside0.mk (blk_below (g := gb227) (o := .cells #[.int .u64 t224, .int .u64 t225, .int .i64 t226] 24 (0, 0)) (by (with_reducible repeat (first | refine qN ?_ _ | refine qD ?_ | refine qA ?_ _)); exact BK227.out) hb); have n3_ := Aside0.mk (blk_below (g := gb228) (o := .cells #[.int .u64 x229000_1, .int .u64 x229001_1, .int .i64 x229002_1] 24 (0, 0)) (by (with_reducible repeat (first | refine qN ?_ _ | refine qD ?_ | refine qA ?_ _)); exact BK228.out) hb); have n4_ := Aside0.mk (below_step (by repeat (first | (with_reducible first | exact HB.out | apply pA | apply pN | apply pD | refine pS ?_ GE220.out | refine pS ?_ GE221.out | refine pS ?_ GE227.out | refine pS ?_ GE228.out) | exact HB.out)) hb); have n5_ := Aside0.mk (hbox); have n6_ := Aside0.mk ((by rw [hg]; exact (below_size (by repeat (first | (with_reducible first | exact HB.out | apply pA | apply pN | apply pD | refine pS ?_ GE220.out | refine pS ?_ GE221.out | refine pS ?_ GE227.out | refine pS ?_ GE228.out) | exact HB.out))) : w.heap.size ≤ gb233)); have n7_ := Aside0.mk ((by rw [hg]; exact (below_size (by repeat (first | (with_reducible first | exact HB.out | apply pA | apply pN | apply pD | refine pS ?_ GE220.out | refine pS ?_ GE221.out | refine pS ?_ GE227.out | refine pS ?_ GE228.out) | exact HB.out))) : w.heap.size ≤ gb233)); have n8_ := Aside0.mk ((by rw [hg]; exact Nat.ne_of_lt (blk_lt (g := gb220) (o := .cells #[.int .u64 a0_0, .int .u64 a0_1, .int .i64 a0_2, .int .i64 a0_3, .int .i64 a0_4, .int .u8 a0_5] 40 (0, 0)) (by (with_reducible repeat (first | refine qN ?_ _ | refine qD ?_ | refine qA ?_ _)); exact BK220.out)) : gb220 ≠ gb233)); have n9_ := Aside0.mk ((by rw [hg]; exact Nat.ne_of_gt (blk_lt (g := gb220) (o := .cells #[.int .u64 a0_0, .int .u64 a0_1, .int .i64 a0_2, .int .i64 a0_3, .int .i64 a0_4, .int .u8 a0_5] 40 (0, 0)) (by (with_reducible repeat (first | refine qN ?_ _ | refine qD ?_ | refine qA ?_ _)); exact BK220.out)) : gb233 ≠ gb220)); have n10_ := Aside0.mk ((by rw [hg]; exact Nat.ne_of_lt (blk_lt (g := gb221) (o := .cells #[.int .u64 a0_0, .int .u64 a0_1, .int .i64 a0_2] 24 (0, 0)) (by (with_reducible repeat (first | refine qN ?_ _ | refine qD ?_ | refine qA ?_ _)); exact BK221.out)) : gb221 ≠ gb233)); have n11_ := Aside0.mk ((by rw [hg]; exact Nat.ne_of_gt (blk_lt (g := gb221) (o := .cells #[.int .u64 a0_0, .int .u64 a0_1, .int .i64 a0_2] 24 (0, 0)) (by (with_reducible repeat (first | refine qN ?_ _ | refine qD ?_ | refine qA ?_ _)); exact BK221.out)) : gb233 ≠ gb221)); have n12_ := Aside0.mk ((by rw [hg]; exact Nat.ne_of_lt (blk_lt (g := gb227) (o := .cells #[.int .u64 t224, .int .u64 t225, .int .i64 t226] 24 (0, 0)) (by (with_reducible repeat (first | refine qN ?_ _ | refine qD ?_ | refine qA ?_ _)); exact BK227.out)) : gb227 ≠ gb233)); have n13_ := Aside0.mk ((by rw [hg]; exact Nat.ne_of_gt (blk_lt (g := gb227) (o := .cells #[.int .u64 t224, .int .u64 t225, .int .i64 t226] 24 (0, 0)) (by (with_reducible repeat (first | refine qN ?_ _ | refine qD ?_ | refine qA ?_ _)); exact BK227.out)) : gb233 ≠ gb227)); have n14_ := Aside0.mk ((by rw [hg]; exact Nat.ne_of_lt (blk_lt (g := gb228) (o := .cells #[.int .u64 x229000_1, .int .u64 x229001_1, .int .i64 x229002_1] 24 (0, 0)) (by (with_reducible repeat (first | refine qN ?_ _ | refine qD ?_ | refine qA ?_ _)); exact BK228.out)) : gb228 ≠ gb233)); have n15_ := Aside0.mk ((by rw [hg]; exact Nat.ne_of_gt (blk_lt (g := gb228) (o := .cells #[.int .u64 x229000_1, .int .u64 x229001_1, .int .i64 x229002_1] 24 (0, 0)) (by (with_reducible repeat (first | refine qN ?_ _ | refine qD ?_ | refine qA ?_ _)); exact BK228.out)) : gb233 ≠ gb228)); clear BK220; clear BK221; clear BK227; clear BK228; clear HB; have BK220 := n0_; have BK221 := n1_; have BK227 := n2_; have BK228 := n3_; have HB := n4_; have BK233 := n5_; have GW233 := n6_; have GE233 := n7_; have NB220_233 := n8_; have NB233_220 := n9_; have NB221_233 := n10_; have NB233_221 := n11_; have NB227_233 := n12_; have NB233_227 := n13_; have NB228_233 := n14_; have NB233_228 := n15_; clear n0_ n1_ n2_ n3_ n4_ n5_ n6_ n7_ n8_ n9_ n10_ n11_ n12_ n13_ n14_ n15_; clear hb hbox hg; have hnb35 := NB233_220.out; have hnc35 := NB220_233.out; have hnb36 := NB233_221.out; have hnc36 := NB221_233.out; have hnb37 := NB233_227.out; have hnc37 := NB227_233.out; have hnb38 := NB233_228.out; have hnc38 := NB228_233.out; have hcz39_0 : w34.cell? ⟨gb233, 0, none⟩ = some (.int .u64 0) := (blk_cell BK233.out 0).trans rfl; have hcz39_1 : w34.cell? ⟨gb233, 1, none⟩ = some (.int .u64 0) := (blk_cell BK233.out 1).trans rfl; have hcz39_2 : w34.cell? ⟨gb233, 2, none⟩ = some (.int .i64 0) := (blk_cell BK233.out 2).trans rfl; have hfz39_0 := blk_frozen BK233.out 0; have hfz39_1 := blk_frozen BK233.out 1; have hfz39_2 := blk_frozen BK233.out 2; have hcz40_0 : w34.cell? ⟨gb228, 0, none⟩ = some (.int .u64 x229000_1) := (blk_cell BK228.out 0).trans rfl; have hcz40_1 : w34.cell? ⟨gb228, 1, none⟩ = some (.int .u64 x229001_1) := (blk_cell BK228.out 1).trans rfl; have hcz40_2 : w34.cell? ⟨gb228, 2, none⟩ = some (.int .i64 x229002_1) := (blk_cell BK228.out 2).trans rfl; have hfz40_0 := blk_frozen BK228.out 0; have hfz40_1 := blk_frozen BK228.out 1; have hfz40_2 := blk_frozen BK228.out 2))
            go_roundg k1
            case measure => have := HK1.out; omega
            case rel => exact ⟨(wrap64 (x9_1 + 1)), (wrap64 (x11_1 + 1)), (t229), (t230), (t231), (by first | rfl | (simp; done) | (simp [*]; done)), (by first | rfl | (simp; done) | (simp [*]; done)), H', ⟨by have := HK1.out; omega⟩, ⟨by (with_reducible repeat (first | refine qN ?_ _ | refine qD ?_ | refine qA ?_ _)); refine blk_far ?_ NB220_228.out _; (with_reducible repeat (first | refine qN ?_ _ | refine qD ?_ | refine qA ?_ _)); refine blk_far ?_ NB220_228.out _; (with_reducible repeat (first | refine qN ?_ _ | refine qD ?_ | refine qA ?_ _)); refine blk_far ?_ NB220_228.out _; (with_reducible repeat (first | refine qN ?_ _ | refine qD ?_ | refine qA ?_ _)); refine blk_far ?_ NB220_233.out _; (with_reducible repeat (first | refine qN ?_ _ | refine qD ?_ | refine qA ?_ _)); refine blk_far ?_ NB220_233.out _; (with_reducible repeat (first | refine qN ?_ _ | refine qD ?_ | refine qA ?_ _)); refine blk_far ?_ NB220_233.out _; (with_reducible repeat (first | refine qN ?_ _ | refine qD ?_ | refine qA ?_ _)); exact BK220.out⟩, ⟨by (with_reducible repeat (first | refine qN ?_ _ | refine qD ?_ | refine qA ?_ _)); refine blk_far ?_ NB221_228.out _; (with_reducible repeat (first | refine qN ?_ _ | refine qD ?_ | refine qA ?_ _)); refine blk_far ?_ NB221_228.out _; (with_reducible repeat (first | refine qN ?_ _ | refine qD ?_ | refine qA ?_ _)); refine blk_far ?_ NB221_228.out _; (with_reducible repeat (first | refine qN ?_ _ | refine qD ?_ | refine qA ?_ _)); refine blk_far ?_ NB221_233.out _; (with_reducible repeat (first | refine qN ?_ _ | refine qD ?_ | refine qA ?_ _)); refine blk_far ?_ NB221_233.out _; (with_reducible repeat (first | refine qN ?_ _ | refine qD ?_ | refine qA ?_ _)); refine blk_far ?_ NB221_233.out _; (with_reducible repeat (first | refine qN ?_ _ | refine qD ?_ | refine qA ?_ _)); exact BK221.out⟩, ⟨by (with_reducible repeat (first | refine qN ?_ _ | refine qD ?_ | refine qA ?_ _)); refine blk_far ?_ NB227_228.out _; (with_reducible repeat (first | refine qN ?_ _ | refine qD ?_ | refine qA ?_ _)); refine blk_far ?_ NB227_228.out _; (with_reducible repeat (first | refine qN ?_ _ | refine qD ?_ | refine qA ?_ _)); refine blk_far ?_ NB227_228.out _; (with_reducible repeat (first | refine qN ?_ _ | refine qD ?_ | refine qA ?_ _)); refine blk_far ?_ NB227_233.out _; (with_reducible repeat (first | refine qN ?_ _ | refine qD ?_ | refine qA ?_ _)); refine blk_far ?_ NB227_233.out _; (with_reducible repeat (first | refine qN ?_ _ | refine qD ?_ | refine qA ?_ _)); refine blk_far ?_ NB227_233.out _; (with_reducible repeat (first | refine qN ?_ _ | refine qD ?_ | refine qA ?_ _)); exact BK227.out⟩, ⟨by (with_reducible repeat (first | refine qN ?_ _ | refine qD ?_ | refine qA ?_ _)); refine blk_put (cs := #[.int .u64 t229, .int .u64 t230, .int .i64 x229002_1]) ?_ 2 _ rfl; (with_reducible repeat (first | refine qN ?_ _ | refine qD ?_ | refine qA ?_ _)); refine blk_put (cs := #[.int .u64 t229, .int .u64 x229001_1, .int .i64 x229002_1]) ?_ 1 _ rfl; (with_reducible repeat (first | refine qN ?_ _ | refine qD ?_ | refine qA ?_ _)); refine blk_put (cs := #[.int .u64 x229000_1, .int .u64 x229001_1, .int .i64 x229002_1]) ?_ 0 _ rfl; (with_reducible repeat (first | refine qN ?_ _ | refine qD ?_ | refine qA ?_ _)); refine blk_far ?_ NB228_233.out _; (with_reducible repeat (first | refine qN ?_ _ | refine qD ?_ | refine qA ?_ _)); refine blk_far ?_ NB228_233.out _; (with_reducible repeat (first | refine qN ?_ _ | refine qD ?_ | refine qA ?_ _)); refine blk_far ?_ NB228_233.out _; (with_reducible repeat (first | refine qN ?_ _ | refine qD ?_ | refine qA ?_ _)); exact BK228.out⟩, ⟨by repeat (first | (with_reducible first | exact HB.out | apply pA | apply pN | apply pD | refine pS ?_ GE220.out | refine pS ?_ GE221.out | refine pS ?_ GE227.out | refine pS ?_ GE228.out | refine pS ?_ GE233.out) | exact HB.out)⟩⟩
          · replace c28 := Bool.eq_false_iff.mpr c28
            subst c28
            have H1 : (portreevelaw17_MeterUp.l0 k1 a0_5 t222 x9_1 (wrap64 (x11_1 + 1)) a0_0 a0_1 a0_2 t224 t225 t226 t229 t230 t231) = some r := by rw [if_neg (show ¬ (false = true) by decide)] at H; exact H
            clear H
            have H := H1
            clear H1
            have H' := Aside0.mk H
            clear H
            have hnb41 := NB228_220.out
            have hnc41 := NB220_228.out
            have hnb42 := NB228_221.out
            have hnc42 := NB221_228.out
            have hnb43 := NB228_227.out
            have hnc43 := NB227_228.out
            have hcz44_0 : wr.cell? ⟨gb228, 0, none⟩ = some (.int .u64 x229000_1) := (blk_cell BK228.out 0).trans rfl
            have hcz44_1 : wr.cell? ⟨gb228, 1, none⟩ = some (.int .u64 x229001_1) := (blk_cell BK228.out 1).trans rfl
            have hcz44_2 : wr.cell? ⟨gb228, 2, none⟩ = some (.int .i64 x229002_1) := (blk_cell BK228.out 2).trans rfl
            have hfz44_0 := blk_frozen BK228.out 0
            have hfz44_1 := blk_frozen BK228.out 1
            have hfz44_2 := blk_frozen BK228.out 2
            go_wp2_with (first | ((with_reducible refine gate_callee (f := 14) rfl ?_); refine goesL_ (some 42) rfl rfl Try.func14 (by kernel_rfl) rfl #[.agg #[.int .u64 x229000_1, .int .u64 x229001_1, .int .i64 x229002_1]] rfl (by (try simp only [List.map_toArray, List.map_cons, List.map_nil]); first | done | rfl | (simp only [List.length_drop, List.length_take]; rfl)) ?_; (with_reducible refine (meter_Tick.calls x229000_1 x229001_1 x229002_1 t229 t230 t231 false _ A27.out).mono ?_); rintro e w45 ⟨rfl, hb⟩; refine ⟨_, rfl, ?_⟩; have n0_ := Aside0.mk (blk_below (g := gb220) (o := .cells #[.int .u64 a0_0, .int .u64 a0_1, .int .i64 a0_2, .int .i64 a0_3, .int .i64 a0_4, .int .u8 a0_5] 40 (0, 0)) (by (with_reducible repeat (first | refine qN ?_ _ | refine qD ?_ | refine qA ?_ _)); exact BK220.out) hb); have n1_ := Aside0.mk (blk_below (g := gb221) (o := .cells #[.int .u64 a0_0, .int .u64 a0_1, .int .i64 a0_2] 24 (0, 0)) (by (with_reducible repeat (first | refine qN ?_ _ | refine qD ?_ | refine qA ?_ _)); exact BK221.out) hb); have n2_ := Aside0.mk (blk_below (g := gb227) (o := .cells #[.int .u64 t224, .int .u64 t225, .int .i64 t226] 24 (0, 0)) (by (with_reducible repeat (first | refine qN ?_ _ | refine qD ?_ | refine qA ?_ _)); exact BK227.out) hb); have n3_ := Aside0.mk (blk_below (g := gb228) (o := .cells #[.int .u64 x229000_1, .int .u64 x229001_1, .int .i64 x229002_1] 24 (0, 0)) (by (with_reducible repeat (first | refine qN ?_ _ | refine qD ?_ | refine qA ?_ _)); exact BK228.out) hb); have n4_ := Aside0.mk (below_step (by repeat (first | (with_reducible first | exact HB.out | apply pA | apply pN | apply pD | refine pS ?_ GE220.out | refine pS ?_ GE221.out | refine pS ?_ GE227.out | refine pS ?_ GE228.out) | exact HB.out)) hb); clear BK220; clear BK221; clear BK227; clear BK228; clear HB; have BK220 := n0_; have BK221 := n1_; have BK227 := n2_; have BK228 := n3_; have HB := n4_; clear n0_ n1_ n2_ n3_ n4_; (try clear hb); (try clear hb2); (try clear hk); (try clear hi)) | ((with_reducible refine gate_dst (N := 12) rfl ?_); refine box_event ?hg (N := 12) ?hd (cs := #[.int .u64 0, .int .u64 0, .int .i64 0]) (t := 24) ?hr ?_; (case hd => rfl); (case hg => rfl); (case hr => first | (go_simp; done) | (go_simp; rfl)); intro gb233 hg w46 hbox hb; have n0_ := Aside0.mk (blk_below (g := gb220) (o := .cells #[.int .u64 a0_0, .int .u64 a0_1, .int .i64 a0_2, .int .i64 a0_3, .int .i64 a0_4, .int .u8 a0_5] 40 (0, 0)) (by (with_reducible repeat (first | refine qN ?_ _ | refine qD ?_ | refine qA ?_ _)); exact BK220.out) hb); have n1_ := Aside0.mk (blk_below (g := gb221) (o := .cells #[.int .u64 a0_0, .int .u64 a0_1, .int .i64 a0_2] 24 (0, 0)) (by (with_reducible repeat (first | refine qN ?_ _ | refine qD ?_ | refine qA ?_ _)); exact BK221.out) hb); have n2_ := Aside0.mk (blk_below (g := gb227) (o := .cells #[.int .u64 t224, .int .u64 t225, .int .i64 t226] 24 (0, 0)) (by (with_reducible repeat (first | refine qN ?_ _ | refine qD ?_ | refine qA ?_ _)); exact BK227.out) hb); have n3_ := Aside0.mk (blk_below (g := gb228) (o := .cells #[.int .u64 x229000_1, .int .u64 x229001_1, .int .i64 x229002_1] 24 (0, 0)) (by (with_reducible repeat (first | refine qN ?_ _ | refine qD ?_ | refine qA ?_ _)); exact BK228.out) hb); have n4_ := Aside0.mk (below_step (by repeat (first | (with_reducible first | exact HB.out | apply pA | apply pN | apply pD | refine pS ?_ GE220.out | refine pS ?_ GE221.out | refine pS ?_ GE227.out | refine pS ?_ GE228.out) | exact HB.out)) hb); have n5_ := Aside0.mk (hbox); have n6_ := Aside0.mk ((by rw [hg]; exact (below_size (by repeat (first | (with_reducible first | exact HB.out | apply pA | apply pN | apply pD | refine pS ?_ GE220.out | refine pS ?_ GE221.out | refine pS ?_ GE227.out | refine pS ?_ GE228.out) | exact HB.out))) : w.heap.size ≤ gb233)); have n7_ := Aside0.mk ((by rw [hg]; exact (below_size (by repeat (first | (with_reducible first | exact HB.out | apply pA | apply pN | apply pD | refine pS ?_ GE220.out | refine pS ?_ GE221.out | refine pS ?_ GE227.out | refine pS ?_ GE228.out) | exact HB.out))) : w.heap.size ≤ gb233)); have n8_ := Aside0.mk ((by rw [hg]; exact Nat.ne_of_lt (blk_lt (g := gb220) (o := .cells #[.int .u64 a0_0, .int .u64 a0_1, .int .i64 a0_2, .int .i64 a0_3, .int .i64 a0_4, .int .u8 a0_5] 40 (0, 0)) (by (with_reducible repeat (first | refine qN ?_ _ | refine qD ?_ | refine qA ?_ _)); exact BK220.out)) : gb220 ≠ gb233)); have n9_ := Aside0.mk ((by rw [hg]; exact Nat.ne_of_gt (blk_lt (g := gb220) (o := .cells #[.int .u64 a0_0, .int .u64 a0_1, .int .i64 a0_2, .int .i64 a0_3, .int .i64 a0_4, .int .u8 a0_5] 40 (0, 0)) (by (with_reducible repeat (first | refine qN ?_ _ | refine qD ?_ | refine qA ?_ _)); exact BK220.out)) : gb233 ≠ gb220)); have n10_ := Aside0.mk ((by rw [hg]; exact Nat.ne_of_lt (blk_lt (g := gb221) (o := .cells #[.int .u64 a0_0, .int .u64 a0_1, .int .i64 a0_2] 24 (0, 0)) (by (with_reducible repeat (first | refine qN ?_ _ | refine qD ?_ | refine qA ?_ _)); exact BK221.out)) : gb221 ≠ gb233)); have n11_ := Aside0.mk ((by rw [hg]; exact Nat.ne_of_gt (blk_lt (g := gb221) (o := .cells #[.int .u64 a0_0, .int .u64 a0_1, .int .i64 a0_2] 24 (0, 0)) (by (with_reducible repeat (first | refine qN ?_ _ | refine qD ?_ | refine qA ?_ _)); exact BK221.out)) : gb233 ≠ gb221)); have n12_ := Aside0.mk ((by rw [hg]; exact Nat.ne_of_lt (blk_lt (g := gb227) (o := .cells #[.int .u64 t224, .int .u64 t225, .int .i64 t226] 24 (0, 0)) (by (with_reducible repeat (first | refine qN ?_ _ | refine qD ?_ | refine qA ?_ _)); exact BK227.out)) : gb227 ≠ gb233)); have n13_ := Aside0.mk ((by rw [hg]; exact Nat.ne_of_gt (blk_lt (g := gb227) (o := .cells #[.int .u64 t224, .int .u64 t225, .int .i64 t226] 24 (0, 0)) (by (with_reducible repeat (first | refine qN ?_ _ | refine qD ?_ | refine qA ?_ _)); exact BK227.out)) : gb233 ≠ gb227)); have n14_ := Aside0.mk ((by rw [hg]; exact Nat.ne_of_lt (blk_lt (g := gb228) (o := .cells #[.int .u64 x229000_1, .int .u64 x229001_1, .int .i64 x229002_1] 24 (0, 0)) (by (with_reducible repeat (first | refine qN ?_ _ | refine qD ?_ | refine qA ?_ _)); exact BK228.out)) : gb228 ≠ gb233)); have n15_ := Aside0.mk ((by rw [hg]; exact Nat.ne_of_gt (blk_lt (g := gb228) (o := .cells #[.int .u64 x229000_1, .int .u64 x229001_1, .int .i64 x229002_1] 24 (0, 0)) (by (with_reducible repeat (first | refine qN ?_ _ | refine qD ?_ | refine qA ?_ _)); exact BK228.out)) : gb233 ≠ gb228)); clear BK220; clear BK221; clear BK227; clear BK228; clear HB; have BK220 := n0_; have BK221 := n1_; have BK227 := n2_; have BK228 := n3_; have HB := n4_; have BK233 := n5_; have GW233 := n6_; have GE233 := n7_; have NB220_233 := n8_; have NB233_220 := n9_; have NB221_233 := n10_; have NB233_221 := n11_; have NB227_233 := n12_; have NB233_227 := n13_; have NB228_233 := n14_; have NB233_228 := n15_; clear n0_ n1_ n2_ n3_ n4_ n5_ n6_ n7_ n8_ n9_ n10_ n11_ n12_ n13_ n14_ n15_; clear hb hbox hg; have hnb47 := NB233_220.out; have hnc47 := NB220_233.out; have hnb48 := NB233_221.out; have hnc48 := NB221_233.out; have hnb49 := NB233_227.out; have hnc49 := NB227_233.out; have hnb50 := NB233_228.out; have hnc50 := NB228_233.out; have hcz51_0 : w46.cell? ⟨gb233, 0, none⟩ = some (.int .u64 0) := (blk_cell BK233.out 0).trans rfl; have hcz51_1 : w46.cell? ⟨gb233, 1, none⟩ = some (.int .u64 0) := (blk_cell BK233.out 1).trans rfl; have hcz51_2 : w46.cell? ⟨gb233, 2, none⟩ = some (.int .i64 0) := (blk_cell BK233.out 2).trans rfl; have hfz51_0 := blk_frozen BK233.out 0; have hfz51_1 := blk_frozen BK233.out 1; have hfz51_2 := blk_frozen BK233.out 2; have hcz52_0 : w46.cell? ⟨gb228, 0, none⟩ = some (.int .u64 x229000_1) := (blk_cell BK228.out 0).trans rfl; have hcz52_1 : w46.cell? ⟨gb228, 1, none⟩ = some (.int .u64 x229001_1) := (blk_cell BK228.out 1).trans rfl; have hcz52_2 : w46.cell? ⟨gb228, 2, none⟩ = some (.int .i64 x229002_1) := (blk_cell BK228.out 2).trans rfl; have hfz52_0 := blk_frozen BK228.out 0; have hfz52_1 := blk_frozen BK228.out 1; have hfz52_2 := blk_frozen BK228.out 2))
            go_roundg k1
            case measure => have := HK1.out; omega
            case rel => exact ⟨(x9_1), (wrap64 (x11_1 + 1)), (t229), (t230), (t231), (by first | rfl | (simp; done) | (simp [*]; done)), (by first | rfl | (simp; done) | (simp [*]; done)), H', ⟨by have := HK1.out; omega⟩, ⟨by (with_reducible repeat (first | refine qN ?_ _ | refine qD ?_ | refine qA ?_ _)); refine blk_far ?_ NB220_228.out _; (with_reducible repeat (first | refine qN ?_ _ | refine qD ?_ | refine qA ?_ _)); refine blk_far ?_ NB220_228.out _; (with_reducible repeat (first | refine qN ?_ _ | refine qD ?_ | refine qA ?_ _)); refine blk_far ?_ NB220_228.out _; (with_reducible repeat (first | refine qN ?_ _ | refine qD ?_ | refine qA ?_ _)); refine blk_far ?_ NB220_233.out _; (with_reducible repeat (first | refine qN ?_ _ | refine qD ?_ | refine qA ?_ _)); refine blk_far ?_ NB220_233.out _; (with_reducible repeat (first | refine qN ?_ _ | refine qD ?_ | refine qA ?_ _)); refine blk_far ?_ NB220_233.out _; (with_reducible repeat (first | refine qN ?_ _ | refine qD ?_ | refine qA ?_ _)); exact BK220.out⟩, ⟨by (with_reducible repeat (first | refine qN ?_ _ | refine qD ?_ | refine qA ?_ _)); refine blk_far ?_ NB221_228.out _; (with_reducible repeat (first | refine qN ?_ _ | refine qD ?_ | refine qA ?_ _)); refine blk_far ?_ NB221_228.out _; (with_reducible repeat (first | refine qN ?_ _ | refine qD ?_ | refine qA ?_ _)); refine blk_far ?_ NB221_228.out _; (with_reducible repeat (first | refine qN ?_ _ | refine qD ?_ | refine qA ?_ _)); refine blk_far ?_ NB221_233.out _; (with_reducible repeat (first | refine qN ?_ _ | refine qD ?_ | refine qA ?_ _)); refine blk_far ?_ NB221_233.out _; (with_reducible repeat (first | refine qN ?_ _ | refine qD ?_ | refine qA ?_ _)); refine blk_far ?_ NB221_233.out _; (with_reducible repeat (first | refine qN ?_ _ | refine qD ?_ | refine qA ?_ _)); exact BK221.out⟩, ⟨by (with_reducible repeat (first | refine qN ?_ _ | refine qD ?_ | refine qA ?_ _)); refine blk_far ?_ NB227_228.out _; (with_reducible repeat (first | refine qN ?_ _ | refine qD ?_ | refine qA ?_ _)); refine blk_far ?_ NB227_228.out _; (with_reducible repeat (first | refine qN ?_ _ | refine qD ?_ | refine qA ?_ _)); refine blk_far ?_ NB227_228.out _; (with_reducible repeat (first | refine qN ?_ _ | refine qD ?_ | refine qA ?_ _)); refine blk_far ?_ NB227_233.out _; (with_reducible repeat (first | refine qN ?_ _ | refine qD ?_ | refine qA ?_ _)); refine blk_far ?_ NB227_233.out _; (with_reducible repeat (first | refine qN ?_ _ | refine qD ?_ | refine qA ?_ _)); refine blk_far ?_ NB227_233.out _; (with_reducible repeat (first | refine qN ?_ _ | refine qD ?_ | refine qA ?_ _)); exact BK227.out⟩, ⟨by (with_reducible repeat (first | refine qN ?_ _ | refine qD ?_ | refine qA ?_ _)); refine blk_put (cs := #[.int .u64 t229, .int .u64 t230, .int .i64 x229002_1]) ?_ 2 _ rfl; (with_reducible repeat (first | refine qN ?_ _ | refine qD ?_ | refine qA ?_ _)); refine blk_put (cs := #[.int .u64 t229, .int .u64 x229001_1, .int .i64 x229002_1]) ?_ 1 _ rfl; (with_reducible repeat (first | refine qN ?_ _ | refine qD ?_ | refine qA ?_ _)); refine blk_put (cs := #[.int .u64 x229000_1, .int .u64 x229001_1, .int .i64 x229002_1]) ?_ 0 _ rfl; (with_reducible repeat (first | refine qN ?_ _ | refine qD ?_ | refine qA ?_ _)); refine blk_far ?_ NB228_233.out _; (with_reducible repeat (first | refine qN ?_ _ | refine qD ?_ | refine qA ?_ _)); refine blk_far ?_ NB228_233.out _; (with_reducible repeat (first | refine qN ?_ _ | refine qD ?_ | refine qA ?_ _)); refine blk_far ?_ NB228_233.out _; (with_reducible repeat (first | refine qN ?_ _ | refine qD ?_ | refine qA ?_ _)); exact BK228.out⟩, ⟨by repeat (first | (with_reducible first | exact HB.out | apply pA | apply pN | apply pD | refine pS ?_ GE220.out | refine pS ?_ GE221.out | refine pS ?_ GE227.out | refine pS ?_ GE228.out | refine pS ?_ GE233.out) | exact HB.out)⟩⟩
        · rw [if_neg c26] at H
          have c26b0 : decide (x11_1 < (wrap64 ((wrap64 (a0_5)) * 6))) = false := decide_eq_false c26
          clear c26
          by_cases c53 : a0_2 > 0
          · rw [if_pos c53] at H
            have c53b0 : decide (0 < a0_2) = true := decide_eq_true c53
            clear c53
            by_cases c54 : t222 = true
            · subst c54
              have H1 : (if t224 ≥ a0_0 then (if t225 ≥ a0_1 then (if (x229000_1 == t224 && (x229001_1 == t225 && (x229002_1 == t226))) = true then (if x9_1 = (wrap64 (a0_5)) then ((meter_Right.f x229000_1 x229001_1 x229002_1).bind fun t234 => (some t234)) else (some false)) else (some false)) else (some false)) else (some false)) = some r := by rw [if_pos rfl] at H; exact H
              clear H
              have H := H1
              clear H1
              by_cases c55 : t224 ≥ a0_0
              · rw [if_pos c55] at H
                have c55b0 : decide (a0_0 ≤ t224) = true := decide_eq_true c55
                clear c55
                by_cases c56 : t225 ≥ a0_1
                · rw [if_pos c56] at H
                  have c56b0 : decide (a0_1 ≤ t225) = true := decide_eq_true c56
                  clear c56
                  by_cases c57 : (x229000_1 == t224 && (x229001_1 == t225 && (x229002_1 == t226))) = true
                  · rw [if_pos c57] at H
                    have c57b0 : (x229000_1 == t224 && (x229001_1 == t225 && (x229002_1 == t226))) = true := c57
                    (try (have c57b1 : decide (x229000_1 = t224 && (x229001_1 == t225 && (x229002_1 == t226))) = true := by simpa using c57))
                    (try (have c57b2 : (x229000_1 == t224 && (x229001_1 == t225 && (x229002_1 == t226))) = true := by simpa using c57))
                    clear c57
                    by_cases c58 : x9_1 = (wrap64 (a0_5))
                    · rw [if_pos c58] at H
                      have c58b0 : (x9_1 == (wrap64 (a0_5))) = true := beq_iff_eq.mpr c58
                      have c58b1 : (x9_1 != (wrap64 (a0_5))) = false := bne_eq_false_iff_eq.mpr c58
                      clear c58
                      replace H := Option.bind_eq_some_iff.mp H
                      obtain ⟨t234, A590, H⟩ := H
                      replace H : (some t234) = some r := H
                      have A59 := Aside0.mk A590
                      clear A590
                      clear hlaw_
                      obtain rfl := Option.some.inj H
                      have hnb60 := NB221_220.out
                      have hnc60 := NB220_221.out
                      have hnb61 := NB221_227.out
                      have hnc61 := NB227_221.out
                      have hnb62 := NB221_228.out
                      have hnc62 := NB228_221.out
                      have hcz63_0 : wr.cell? ⟨gb221, 0, none⟩ = some (.int .u64 a0_0) := (blk_cell BK221.out 0).trans rfl
                      have hcz63_1 : wr.cell? ⟨gb221, 1, none⟩ = some (.int .u64 a0_1) := (blk_cell BK221.out 1).trans rfl
                      have hcz63_2 : wr.cell? ⟨gb221, 2, none⟩ = some (.int .i64 a0_2) := (blk_cell BK221.out 2).trans rfl
                      have hfz63_0 := blk_frozen BK221.out 0
                      have hfz63_1 := blk_frozen BK221.out 1
                      have hfz63_2 := blk_frozen BK221.out 2
                      have hnb64 := NB227_220.out
                      have hnc64 := NB220_227.out
                      have hnb65 := NB227_228.out
                      have hnc65 := NB228_227.out
                      have hcz66_0 : wr.cell? ⟨gb227, 0, none⟩ = some (.int .u64 t224) := (blk_cell BK227.out 0).trans rfl
                      have hcz66_1 : wr.cell? ⟨gb227, 1, none⟩ = some (.int .u64 t225) := (blk_cell BK227.out 1).trans rfl
                      have hcz66_2 : wr.cell? ⟨gb227, 2, none⟩ = some (.int .i64 t226) := (blk_cell BK227.out 2).trans rfl
                      have hfz66_0 := blk_frozen BK227.out 0
                      have hfz66_1 := blk_frozen BK227.out 1
                      have hfz66_2 := blk_frozen BK227.out 2
                      have hnb67 := NB228_220.out
                      have hnc67 := NB220_228.out
                      have hcz68_0 : wr.cell? ⟨gb228, 0, none⟩ = some (.int .u64 x229000_1) := (blk_cell BK228.out 0).trans rfl
                      have hcz68_1 : wr.cell? ⟨gb228, 1, none⟩ = some (.int .u64 x229001_1) := (blk_cell BK228.out 1).trans rfl
                      have hcz68_2 : wr.cell? ⟨gb228, 2, none⟩ = some (.int .i64 x229002_1) := (blk_cell BK228.out 2).trans rfl
                      have hfz68_0 := blk_frozen BK228.out 0
                      have hfz68_1 := blk_frozen BK228.out 1
                      have hfz68_2 := blk_frozen BK228.out 2
                      go_wp2_with (first | (go_at_call 11; (with_reducible refine (meter_Right.calls x229000_1 x229001_1 x229002_1 t234 _ A59.out).mono ?_); rintro e w69 ⟨rfl, hb⟩; have n0_ := Aside0.mk (blk_below (g := gb220) (o := .cells #[.int .u64 a0_0, .int .u64 a0_1, .int .i64 a0_2, .int .i64 a0_3, .int .i64 a0_4, .int .u8 a0_5] 40 (0, 0)) (by (with_reducible repeat (first | refine qN ?_ _ | refine qD ?_ | refine qA ?_ _)); exact BK220.out) hb); have n1_ := Aside0.mk (blk_below (g := gb221) (o := .cells #[.int .u64 a0_0, .int .u64 a0_1, .int .i64 a0_2] 24 (0, 0)) (by (with_reducible repeat (first | refine qN ?_ _ | refine qD ?_ | refine qA ?_ _)); exact BK221.out) hb); have n2_ := Aside0.mk (blk_below (g := gb227) (o := .cells #[.int .u64 t224, .int .u64 t225, .int .i64 t226] 24 (0, 0)) (by (with_reducible repeat (first | refine qN ?_ _ | refine qD ?_ | refine qA ?_ _)); exact BK227.out) hb); have n3_ := Aside0.mk (blk_below (g := gb228) (o := .cells #[.int .u64 x229000_1, .int .u64 x229001_1, .int .i64 x229002_1] 24 (0, 0)) (by (with_reducible repeat (first | refine qN ?_ _ | refine qD ?_ | refine qA ?_ _)); exact BK228.out) hb); have n4_ := Aside0.mk (below_step (by repeat (first | (with_reducible first | exact HB.out | apply pA | apply pN | apply pD | refine pS ?_ GE220.out | refine pS ?_ GE221.out | refine pS ?_ GE227.out | refine pS ?_ GE228.out) | exact HB.out)) hb); clear BK220; clear BK221; clear BK227; clear BK228; clear HB; have BK220 := n0_; have BK221 := n1_; have BK227 := n2_; have BK228 := n3_; have HB := n4_; clear n0_ n1_ n2_ n3_ n4_; (try clear hb); (try clear hb2); (try clear hk); (try clear hi)))
                      go_ret
                      exact ⟨by first | rfl | (simp [errW_none, errW_some] <;> rfl) | (simp [*, errW_none, errW_some] <;> rfl), by repeat (first | (with_reducible first | exact HB.out | apply pA | apply pN | apply pD | refine pS ?_ GE220.out | refine pS ?_ GE221.out | refine pS ?_ GE227.out | refine pS ?_ GE228.out) | exact HB.out)⟩
                    · rw [if_neg c58] at H
                      have c58b0 : (x9_1 == (wrap64 (a0_5))) = false := beq_eq_false_iff_ne.mpr c58
                      have c58b1 : (x9_1 != (wrap64 (a0_5))) = true := bne_iff_ne.mpr c58
                      exact absurd ((Option.some.inj H).trans hlaw_.out) (by decide)
                  · rw [if_neg c57] at H
                    have c57b0 : (x229000_1 == t224 && (x229001_1 == t225 && (x229002_1 == t226))) = false := by simpa using c57
                    (try (have c57b1 : decide (x229000_1 = t224 && (x229001_1 == t225 && (x229002_1 == t226))) = false := by simpa using c57))
                    (try (have c57b2 : (x229000_1 == t224 && (x229001_1 == t225 && (x229002_1 == t226))) = false := by simpa using c57))
                    (try (have c57b3 : ¬ (x229000_1 = t224 && (x229001_1 == t225 && (x229002_1 == t226))) := by simpa using c57))
                    clear c57
                    exact absurd ((Option.some.inj H).trans hlaw_.out) (by decide)
                · rw [if_neg c56] at H
                  have c56b0 : decide (a0_1 ≤ t225) = false := decide_eq_false c56
                  clear c56
                  exact absurd ((Option.some.inj H).trans hlaw_.out) (by decide)
              · rw [if_neg c55] at H
                have c55b0 : decide (a0_0 ≤ t224) = false := decide_eq_false c55
                clear c55
                exact absurd ((Option.some.inj H).trans hlaw_.out) (by decide)
            · replace c54 := Bool.eq_false_iff.mpr c54
              subst c54
              have H1 : (some false) = some r := by rw [if_neg (show ¬ (false = true) by decide)] at H; exact H
              clear H
              have H := H1
              clear H1
              exact absurd ((Option.some.inj H).trans hlaw_.out) (by decide)
          · rw [if_neg c53] at H
            have c53b0 : decide (0 < a0_2) = false := decide_eq_false c53
            clear c53
            by_cases c70 : t222 = true
            · subst c70
              have H1 : (if t224 ≥ a0_0 then (if t225 ≥ a0_1 then (if (x229000_1 == t224 && (x229001_1 == t225 && (x229002_1 == t226))) = true then (if x9_1 = 0 then ((meter_Right.f x229000_1 x229001_1 x229002_1).bind fun t235 => (some t235)) else (some false)) else (some false)) else (some false)) else (some false)) = some r := by rw [if_pos rfl] at H; exact H
              clear H
              have H := H1
              clear H1
              by_cases c71 : t224 ≥ a0_0
              · rw [if_pos c71] at H
                have c71b0 : decide (a0_0 ≤ t224) = true := decide_eq_true c71
                clear c71
                by_cases c72 : t225 ≥ a0_1
                · rw [if_pos c72] at H
                  have c72b0 : decide (a0_1 ≤ t225) = true := decide_eq_true c72
                  clear c72
                  by_cases c73 : (x229000_1 == t224 && (x229001_1 == t225 && (x229002_1 == t226))) = true
                  · rw [if_pos c73] at H
                    have c73b0 : (x229000_1 == t224 && (x229001_1 == t225 && (x229002_1 == t226))) = true := c73
                    (try (have c73b1 : decide (x229000_1 = t224 && (x229001_1 == t225 && (x229002_1 == t226))) = true := by simpa using c73))
                    (try (have c73b2 : (x229000_1 == t224 && (x229001_1 == t225 && (x229002_1 == t226))) = true := by simpa using c73))
                    clear c73
                    by_cases c74 : x9_1 = 0
                    · rw [if_pos c74] at H
                      have c74b0 : (x9_1 == 0) = true := beq_iff_eq.mpr c74
                      have c74b1 : (x9_1 != 0) = false := bne_eq_false_iff_eq.mpr c74
                      clear c74
                      replace H := Option.bind_eq_some_iff.mp H
                      obtain ⟨t235, A750, H⟩ := H
                      replace H : (some t235) = some r := H
                      have A75 := Aside0.mk A750
                      clear A750
                      clear hlaw_
                      obtain rfl := Option.some.inj H
                      have hnb76 := NB221_220.out
                      have hnc76 := NB220_221.out
                      have hnb77 := NB221_227.out
                      have hnc77 := NB227_221.out
                      have hnb78 := NB221_228.out
                      have hnc78 := NB228_221.out
                      have hcz79_0 : wr.cell? ⟨gb221, 0, none⟩ = some (.int .u64 a0_0) := (blk_cell BK221.out 0).trans rfl
                      have hcz79_1 : wr.cell? ⟨gb221, 1, none⟩ = some (.int .u64 a0_1) := (blk_cell BK221.out 1).trans rfl
                      have hcz79_2 : wr.cell? ⟨gb221, 2, none⟩ = some (.int .i64 a0_2) := (blk_cell BK221.out 2).trans rfl
                      have hfz79_0 := blk_frozen BK221.out 0
                      have hfz79_1 := blk_frozen BK221.out 1
                      have hfz79_2 := blk_frozen BK221.out 2
                      have hnb80 := NB227_220.out
                      have hnc80 := NB220_227.out
                      have hnb81 := NB227_228.out
                      have hnc81 := NB228_227.out
                      have hcz82_0 : wr.cell? ⟨gb227, 0, none⟩ = some (.int .u64 t224) := (blk_cell BK227.out 0).trans rfl
                      have hcz82_1 : wr.cell? ⟨gb227, 1, none⟩ = some (.int .u64 t225) := (blk_cell BK227.out 1).trans rfl
                      have hcz82_2 : wr.cell? ⟨gb227, 2, none⟩ = some (.int .i64 t226) := (blk_cell BK227.out 2).trans rfl
                      have hfz82_0 := blk_frozen BK227.out 0
                      have hfz82_1 := blk_frozen BK227.out 1
                      have hfz82_2 := blk_frozen BK227.out 2
                      have hnb83 := NB228_220.out
                      have hnc83 := NB220_228.out
                      have hcz84_0 : wr.cell? ⟨gb228, 0, none⟩ = some (.int .u64 x229000_1) := (blk_cell BK228.out 0).trans rfl
                      have hcz84_1 : wr.cell? ⟨gb228, 1, none⟩ = some (.int .u64 x229001_1) := (blk_cell BK228.out 1).trans rfl
                      have hcz84_2 : wr.cell? ⟨gb228, 2, none⟩ = some (.int .i64 x229002_1) := (blk_cell BK228.out 2).trans rfl
                      have hfz84_0 := blk_frozen BK228.out 0
                      have hfz84_1 := blk_frozen BK228.out 1
                      have hfz84_2 := blk_frozen BK228.out 2
                      go_wp2_with (first | (go_at_call 11; (with_reducible refine (meter_Right.calls x229000_1 x229001_1 x229002_1 t235 _ A75.out).mono ?_); rintro e w85 ⟨rfl, hb⟩; have n0_ := Aside0.mk (blk_below (g := gb220) (o := .cells #[.int .u64 a0_0, .int .u64 a0_1, .int .i64 a0_2, .int .i64 a0_3, .int .i64 a0_4, .int .u8 a0_5] 40 (0, 0)) (by (with_reducible repeat (first | refine qN ?_ _ | refine qD ?_ | refine qA ?_ _)); exact BK220.out) hb); have n1_ := Aside0.mk (blk_below (g := gb221) (o := .cells #[.int .u64 a0_0, .int .u64 a0_1, .int .i64 a0_2] 24 (0, 0)) (by (with_reducible repeat (first | refine qN ?_ _ | refine qD ?_ | refine qA ?_ _)); exact BK221.out) hb); have n2_ := Aside0.mk (blk_below (g := gb227) (o := .cells #[.int .u64 t224, .int .u64 t225, .int .i64 t226] 24 (0, 0)) (by (with_reducible repeat (first | refine qN ?_ _ | refine qD ?_ | refine qA ?_ _)); exact BK227.out) hb); have n3_ := Aside0.mk (blk_below (g := gb228) (o := .cells #[.int .u64 x229000_1, .int .u64 x229001_1, .int .i64 x229002_1] 24 (0, 0)) (by (with_reducible repeat (first | refine qN ?_ _ | refine qD ?_ | refine qA ?_ _)); exact BK228.out) hb); have n4_ := Aside0.mk (below_step (by repeat (first | (with_reducible first | exact HB.out | apply pA | apply pN | apply pD | refine pS ?_ GE220.out | refine pS ?_ GE221.out | refine pS ?_ GE227.out | refine pS ?_ GE228.out) | exact HB.out)) hb); clear BK220; clear BK221; clear BK227; clear BK228; clear HB; have BK220 := n0_; have BK221 := n1_; have BK227 := n2_; have BK228 := n3_; have HB := n4_; clear n0_ n1_ n2_ n3_ n4_; (try clear hb); (try clear hb2); (try clear hk); (try clear hi)))
                      go_ret
                      exact ⟨by first | rfl | (simp [errW_none, errW_some] <;> rfl) | (simp [*, errW_none, errW_some] <;> rfl), by repeat (first | (with_reducible first | exact HB.out | apply pA | apply pN | apply pD | refine pS ?_ GE220.out | refine pS ?_ GE221.out | refine pS ?_ GE227.out | refine pS ?_ GE228.out) | exact HB.out)⟩
                    · rw [if_neg c74] at H
                      have c74b0 : (x9_1 == 0) = false := beq_eq_false_iff_ne.mpr c74
                      have c74b1 : (x9_1 != 0) = true := bne_iff_ne.mpr c74
                      exact absurd ((Option.some.inj H).trans hlaw_.out) (by decide)
                  · rw [if_neg c73] at H
                    have c73b0 : (x229000_1 == t224 && (x229001_1 == t225 && (x229002_1 == t226))) = false := by simpa using c73
                    (try (have c73b1 : decide (x229000_1 = t224 && (x229001_1 == t225 && (x229002_1 == t226))) = false := by simpa using c73))
                    (try (have c73b2 : (x229000_1 == t224 && (x229001_1 == t225 && (x229002_1 == t226))) = false := by simpa using c73))
                    (try (have c73b3 : ¬ (x229000_1 = t224 && (x229001_1 == t225 && (x229002_1 == t226))) := by simpa using c73))
                    clear c73
                    exact absurd ((Option.some.inj H).trans hlaw_.out) (by decide)
                · rw [if_neg c72] at H
                  have c72b0 : decide (a0_1 ≤ t225) = false := decide_eq_false c72
                  clear c72
                  exact absurd ((Option.some.inj H).trans hlaw_.out) (by decide)
              · rw [if_neg c71] at H
                have c71b0 : decide (a0_0 ≤ t224) = false := decide_eq_false c71
                clear c71
                exact absurd ((Option.some.inj H).trans hlaw_.out) (by decide)
            · replace c70 := Bool.eq_false_iff.mpr c70
              subst c70
              have H1 : (some false) = some r := by rw [if_neg (show ¬ (false = true) by decide)] at H; exact H
              clear H
              have H := H1
              clear H1
              exact absurd ((Option.some.inj H).trans hlaw_.out) (by decide)
  · replace c4 := Bool.eq_false_iff.mpr c4
    subst c4
    have H1 : (some t222) = some r := by rw [if_neg (show ¬ (false = true) by decide)] at H; exact H
    clear H
    have H := H1
    clear H1
    clear hlaw_
    obtain rfl := Option.some.inj H
    go_enter Try.func4, Try.ntmps4
    go_wp2_with (first | ((with_reducible refine gate_dst (N := 1) rfl ?_); refine box_event ?hg (N := 1) ?hd (cs := #[.int .u64 a0_0, .int .u64 a0_1, .int .i64 a0_2, .int .i64 a0_3, .int .i64 a0_4, .int .u8 a0_5]) (t := 40) ?hr ?_; (case hd => rfl); (case hg => rfl); (case hr => first | (go_simp; done) | (go_simp; rfl)); intro gb220 hg w86 hbox hb; have n0_ := Aside0.mk (below_step (by repeat (first | (with_reducible first | exact HB.out | apply pA | apply pN | apply pD) | exact HB.out)) hb); have n1_ := Aside0.mk (hbox); have n2_ := Aside0.mk ((by rw [hg]; exact (below_size (by repeat (first | (with_reducible first | exact HB.out | apply pA | apply pN | apply pD) | exact HB.out))) : w.heap.size ≤ gb220)); have n3_ := Aside0.mk ((by rw [hg]; exact (below_size (by repeat (first | (with_reducible first | exact HB.out | apply pA | apply pN | apply pD) | exact HB.out))) : w.heap.size ≤ gb220)); clear HB; have HB := n0_; have BK220 := n1_; have GW220 := n2_; have GE220 := n3_; clear n0_ n1_ n2_ n3_; clear hb hbox hg; have hcz87_0 : w86.cell? ⟨gb220, 0, none⟩ = some (.int .u64 a0_0) := (blk_cell BK220.out 0).trans rfl; have hcz87_1 : w86.cell? ⟨gb220, 1, none⟩ = some (.int .u64 a0_1) := (blk_cell BK220.out 1).trans rfl; have hcz87_2 : w86.cell? ⟨gb220, 2, none⟩ = some (.int .i64 a0_2) := (blk_cell BK220.out 2).trans rfl; have hcz87_3 : w86.cell? ⟨gb220, 3, none⟩ = some (.int .i64 a0_3) := (blk_cell BK220.out 3).trans rfl; have hcz87_4 : w86.cell? ⟨gb220, 4, none⟩ = some (.int .i64 a0_4) := (blk_cell BK220.out 4).trans rfl; have hcz87_5 : w86.cell? ⟨gb220, 5, none⟩ = some (.int .u8 a0_5) := (blk_cell BK220.out 5).trans rfl; have hfz87_0 := blk_frozen BK220.out 0; have hfz87_1 := blk_frozen BK220.out 1; have hfz87_2 := blk_frozen BK220.out 2; have hfz87_3 := blk_frozen BK220.out 3; have hfz87_4 := blk_frozen BK220.out 4; have hfz87_5 := blk_frozen BK220.out 5) | ((with_reducible refine gate_dst (N := 3) rfl ?_); refine box_event ?hg (N := 3) ?hd (cs := #[.int .u64 0, .int .u64 0, .int .i64 0]) (t := 24) ?hr ?_; (case hd => rfl); (case hg => rfl); (case hr => first | (go_simp; done) | (go_simp; rfl)); intro gb221 hg w88 hbox hb; have n0_ := Aside0.mk (blk_below (g := gb220) (o := .cells #[.int .u64 a0_0, .int .u64 a0_1, .int .i64 a0_2, .int .i64 a0_3, .int .i64 a0_4, .int .u8 a0_5] 40 (0, 0)) (by (with_reducible repeat (first | refine qN ?_ _ | refine qD ?_ | refine qA ?_ _)); exact BK220.out) hb); have n1_ := Aside0.mk (below_step (by repeat (first | (with_reducible first | exact HB.out | apply pA | apply pN | apply pD | refine pS ?_ GE220.out) | exact HB.out)) hb); have n2_ := Aside0.mk (hbox); have n3_ := Aside0.mk ((by rw [hg]; exact (below_size (by repeat (first | (with_reducible first | exact HB.out | apply pA | apply pN | apply pD | refine pS ?_ GE220.out) | exact HB.out))) : w.heap.size ≤ gb221)); have n4_ := Aside0.mk ((by rw [hg]; exact (below_size (by repeat (first | (with_reducible first | exact HB.out | apply pA | apply pN | apply pD | refine pS ?_ GE220.out) | exact HB.out))) : w.heap.size ≤ gb221)); have n5_ := Aside0.mk ((by rw [hg]; exact Nat.ne_of_lt (blk_lt (g := gb220) (o := .cells #[.int .u64 a0_0, .int .u64 a0_1, .int .i64 a0_2, .int .i64 a0_3, .int .i64 a0_4, .int .u8 a0_5] 40 (0, 0)) (by (with_reducible repeat (first | refine qN ?_ _ | refine qD ?_ | refine qA ?_ _)); exact BK220.out)) : gb220 ≠ gb221)); have n6_ := Aside0.mk ((by rw [hg]; exact Nat.ne_of_gt (blk_lt (g := gb220) (o := .cells #[.int .u64 a0_0, .int .u64 a0_1, .int .i64 a0_2, .int .i64 a0_3, .int .i64 a0_4, .int .u8 a0_5] 40 (0, 0)) (by (with_reducible repeat (first | refine qN ?_ _ | refine qD ?_ | refine qA ?_ _)); exact BK220.out)) : gb221 ≠ gb220)); clear BK220; clear HB; have BK220 := n0_; have HB := n1_; have BK221 := n2_; have GW221 := n3_; have GE221 := n4_; have NB220_221 := n5_; have NB221_220 := n6_; clear n0_ n1_ n2_ n3_ n4_ n5_ n6_; clear hb hbox hg; have hnb89 := NB221_220.out; have hnc89 := NB220_221.out; have hcz90_0 : w88.cell? ⟨gb221, 0, none⟩ = some (.int .u64 0) := (blk_cell BK221.out 0).trans rfl; have hcz90_1 : w88.cell? ⟨gb221, 1, none⟩ = some (.int .u64 0) := (blk_cell BK221.out 1).trans rfl; have hcz90_2 : w88.cell? ⟨gb221, 2, none⟩ = some (.int .i64 0) := (blk_cell BK221.out 2).trans rfl; have hfz90_0 := blk_frozen BK221.out 0; have hfz90_1 := blk_frozen BK221.out 1; have hfz90_2 := blk_frozen BK221.out 2; have hcz91_0 : w88.cell? ⟨gb220, 0, none⟩ = some (.int .u64 a0_0) := (blk_cell BK220.out 0).trans rfl; have hcz91_1 : w88.cell? ⟨gb220, 1, none⟩ = some (.int .u64 a0_1) := (blk_cell BK220.out 1).trans rfl; have hcz91_2 : w88.cell? ⟨gb220, 2, none⟩ = some (.int .i64 a0_2) := (blk_cell BK220.out 2).trans rfl; have hcz91_3 : w88.cell? ⟨gb220, 3, none⟩ = some (.int .i64 a0_3) := (blk_cell BK220.out 3).trans rfl; have hcz91_4 : w88.cell? ⟨gb220, 4, none⟩ = some (.int .i64 a0_4) := (blk_cell BK220.out 4).trans rfl; have hcz91_5 : w88.cell? ⟨gb220, 5, none⟩ = some (.int .u8 a0_5) := (blk_cell BK220.out 5).trans rfl; have hfz91_0 := blk_frozen BK220.out 0; have hfz91_1 := blk_frozen BK220.out 1; have hfz91_2 := blk_frozen BK220.out 2; have hfz91_3 := blk_frozen BK220.out 3; have hfz91_4 := blk_frozen BK220.out 4; have hfz91_5 := blk_frozen BK220.out 5) | ((with_reducible refine gate_callee (f := 9) rfl ?_); refine goesL_ (some 23) rfl rfl Try.func9 (by kernel_rfl) rfl #[] rfl (by (try simp only [List.map_toArray, List.map_cons, List.map_nil]); first | done | rfl | (simp only [List.length_drop, List.length_take]; rfl)) ?_; (with_reducible refine (portreevelaw17_shown.calls k  t222 _ A2.out).mono ?_); rintro e w92 ⟨rfl, hb⟩; refine ⟨_, rfl, ?_⟩; have n0_ := Aside0.mk (blk_below (g := gb220) (o := .cells #[.int .u64 a0_0, .int .u64 a0_1, .int .i64 a0_2, .int .i64 a0_3, .int .i64 a0_4, .int .u8 a0_5] 40 (0, 0)) (by (with_reducible repeat (first | refine qN ?_ _ | refine qD ?_ | refine qA ?_ _)); refine blk_far ?_ NB220_221.out _; (with_reducible repeat (first | refine qN ?_ _ | refine qD ?_ | refine qA ?_ _)); refine blk_far ?_ NB220_221.out _; (with_reducible repeat (first | refine qN ?_ _ | refine qD ?_ | refine qA ?_ _)); refine blk_far ?_ NB220_221.out _; (with_reducible repeat (first | refine qN ?_ _ | refine qD ?_ | refine qA ?_ _)); exact BK220.out) hb); have n1_ := Aside0.mk (blk_below (g := gb221) (o := .cells #[.int .u64 a0_0, .int .u64 a0_1, .int .i64 a0_2] 24 (0, 0)) (by (with_reducible repeat (first | refine qN ?_ _ | refine qD ?_ | refine qA ?_ _)); refine blk_put (cs := #[.int .u64 a0_0, .int .u64 a0_1, .int .i64 0]) ?_ 2 _ rfl; (with_reducible repeat (first | refine qN ?_ _ | refine qD ?_ | refine qA ?_ _)); refine blk_put (cs := #[.int .u64 a0_0, .int .u64 0, .int .i64 0]) ?_ 1 _ rfl; (with_reducible repeat (first | refine qN ?_ _ | refine qD ?_ | refine qA ?_ _)); refine blk_put (cs := #[.int .u64 0, .int .u64 0, .int .i64 0]) ?_ 0 _ rfl; (with_reducible repeat (first | refine qN ?_ _ | refine qD ?_ | refine qA ?_ _)); exact BK221.out) hb); have n2_ := Aside0.mk (below_step (by repeat (first | (with_reducible first | exact HB.out | apply pA | apply pN | apply pD | refine pS ?_ GE220.out | refine pS ?_ GE221.out) | exact HB.out)) hb); clear BK220; clear BK221; clear HB; have BK220 := n0_; have BK221 := n1_; have HB := n2_; clear n0_ n1_ n2_; (try clear hb); (try clear hb2); (try clear hk); (try clear hi); have hcz93_0 : w92.cell? ⟨gb221, 0, none⟩ = some (.int .u64 a0_0) := (blk_cell BK221.out 0).trans rfl; have hcz93_1 : w92.cell? ⟨gb221, 1, none⟩ = some (.int .u64 a0_1) := (blk_cell BK221.out 1).trans rfl; have hcz93_2 : w92.cell? ⟨gb221, 2, none⟩ = some (.int .i64 a0_2) := (blk_cell BK221.out 2).trans rfl; have hfz93_0 := blk_frozen BK221.out 0; have hfz93_1 := blk_frozen BK221.out 1; have hfz93_2 := blk_frozen BK221.out 2) | ((with_reducible refine gate_callee (f := 10) rfl ?_); refine goesL_ (some 25) rfl rfl Try.func10 (by kernel_rfl) rfl #[.agg #[.int .u64 a0_0, .int .u64 a0_1, .int .i64 a0_2]] rfl (by (try simp only [List.map_toArray, List.map_cons, List.map_nil]); first | done | rfl | (simp only [List.length_drop, List.length_take]; rfl)) ?_; (with_reducible refine (portreeveref17_Right.calls a0_0 a0_1 a0_2 false _ A3.out).mono ?_); rintro e w94 ⟨rfl, hb⟩; refine ⟨_, rfl, ?_⟩; have n0_ := Aside0.mk (blk_below (g := gb220) (o := .cells #[.int .u64 a0_0, .int .u64 a0_1, .int .i64 a0_2, .int .i64 a0_3, .int .i64 a0_4, .int .u8 a0_5] 40 (0, 0)) (by (with_reducible repeat (first | refine qN ?_ _ | refine qD ?_ | refine qA ?_ _)); exact BK220.out) hb); have n1_ := Aside0.mk (blk_below (g := gb221) (o := .cells #[.int .u64 a0_0, .int .u64 a0_1, .int .i64 a0_2] 24 (0, 0)) (by (with_reducible repeat (first | refine qN ?_ _ | refine qD ?_ | refine qA ?_ _)); exact BK221.out) hb); have n2_ := Aside0.mk (below_step (by repeat (first | (with_reducible first | exact HB.out | apply pA | apply pN | apply pD | refine pS ?_ GE220.out | refine pS ?_ GE221.out) | exact HB.out)) hb); clear BK220; clear BK221; clear HB; have BK220 := n0_; have BK221 := n1_; have HB := n2_; clear n0_ n1_ n2_; (try clear hb); (try clear hb2); (try clear hk); (try clear hi)))
    go_ret
    exact ⟨by first | rfl | (simp [errW_none, errW_some] <;> rfl) | (simp [*, errW_none, errW_some] <;> rfl), by repeat (first | (with_reducible first | exact HB.out | apply pA | apply pN | apply pD | refine pS ?_ GE220.out | refine pS ?_ GE221.out) | exact HB.out)⟩

/-! ### portreeveref04_Of: function 24 -/
def portreeveref04_Of.l0 : Nat → Int → Int → Int → List (S51) → List (S56) → List (S68) → Option (Int)
  | 0, _, _, _, _, _, _ => none
  | k + 1, x1, x5, x237000, x237001, x237002, x237003 => if x5 < (x237001.length : Int) then (if 0 ≤ x5 then (if ((rd_T51 x237001 x5).f0) = x1 then (some x5) else (portreeveref04_Of.l0 k x1 (wrap64 (x5 + 1)) x237000 x237001 x237002 x237003)) else (none)) else (some (-1))
def portreeveref04_Of.f (k : Nat) (a0_0 : Int) (l0_1 : List (S51)) (l0_2 : List (S56)) (l0_3 : List (S68)) (a1 : Int) : Option (Int) := portreeveref04_Of.l0 k a1 0 a0_0 l0_1 l0_2 l0_3
theorem portreeveref04_Of.mono_l : ∀ k, (∀ y0 y1 y2 y3 y4 y5, LeO (portreeveref04_Of.l0 k y0 y1 y2 y3 y4 y5) (portreeveref04_Of.l0 (k + 1) y0 y1 y2 y3 y4 y5))
  | 0 => fun _ _ _ _ _ _ r h => by simp [portreeveref04_Of.l0] at h
  | k + 1 => by
    have ih0 := portreeveref04_Of.mono_l k
    · intro y0 y1 y2 y3 y4 y5
      unfold portreeveref04_Of.l0
      repeat' first
      | (with_reducible exact ih0 _ _ _ _ _ _)
      | (with_reducible exact LeO.refl _)
      | (with_reducible exact LeO.none _)
      | (with_reducible refine LeO.ite ?_ ?_)
      | (with_reducible refine LeO.bind ?_ (fun _ => ?_))
      | exact ih0 _ _ _ _ _ _
      | exact LeO.none _
      | refine LeO.ite ?_ ?_
      | refine LeO.bind ?_ (fun _ => ?_)
theorem portreeveref04_Of.mono : ∀ a0 a1 a2 a3 a4 k, LeO (portreeveref04_Of.f k a0 a1 a2 a3 a4) (portreeveref04_Of.f (k + 1) a0 a1 a2 a3 a4) := by
  intro a0 a1 a2 a3 a4 k
  have ih0 := portreeveref04_Of.mono_l k
  unfold portreeveref04_Of.f
  repeat' first
      | (with_reducible exact ih0 _ _ _ _ _ _)
      | (with_reducible exact LeO.refl _)
      | (with_reducible exact LeO.none _)
      | (with_reducible refine LeO.ite ?_ ?_)
      | (with_reducible refine LeO.bind ?_ (fun _ => ?_))
      | exact ih0 _ _ _ _ _ _
      | exact LeO.none _
      | refine LeO.ite ?_ ?_
      | refine LeO.bind ?_ (fun _ => ?_)
set_option maxHeartbeats 8000000 in
set_option maxRecDepth 100000 in
theorem portreeveref04_Of.calls (k : Nat) (a0_0 : Int) (A0_1 : Option Addr) (c0_1 : Nat) (l0_1 : List (S51)) (A0_2 : Option Addr) (c0_2 : Nat) (l0_2 : List (S56)) (A0_3 : Option Addr) (c0_3 : Nat) (l0_3 : List (S68)) (a1 : Int) (r : Int) (w : World) (hr0_1 : Kd.C k51 w A0_1 l0_1.length l0_1) (hc0_1 : l0_1.length ≤ c0_1) (hr0_2 : Kd.C k56 w A0_2 l0_2.length l0_2) (hc0_2 : l0_2.length ≤ c0_2) (hr0_3 : Kd.C k68 w A0_3 l0_3.length l0_3) (hc0_3 : l0_3.length ≤ c0_3) (h : portreeveref04_Of.f k a0_0 l0_1 l0_2 l0_3 a1 = some r) :
    Calls Try.prog 24 #[.agg #[.int .i64 a0_0, .slice A0_1 l0_1.length c0_1, .slice A0_2 l0_2.length c0_2, .slice A0_3 l0_3.length c0_3], .int .i64 a1] w fun e w' => e = .returned (.int .i64 r) ∧ Below w.heap.size w w' := by
  have hu46 := Try.underlying46
  have hu51 := Try.underlying51
  have HR0_1 := Aside0.mk hr0_1
  have HC0_1 := Aside0.mk hc0_1
  clear hr0_1 hc0_1
  have HR0_2 := Aside0.mk hr0_2
  have HC0_2 := Aside0.mk hc0_2
  clear hr0_2 hc0_2
  have HR0_3 := Aside0.mk hr0_3
  have HC0_3 := Aside0.mk hc0_3
  clear hr0_3 hc0_3
  have HB := Aside0.mk (Below.refl w.heap.size w)
  have H : (portreeveref04_Of.l0 k a1 0 a0_0 l0_1 l0_2 l0_3) = some r := h
  clear h
  have H' := Aside0.mk H
  clear H
  go_enter Try.func24, Try.ntmps24
  go_wp2_with (first | ((with_reducible refine gate_dst (N := 2) rfl ?_); refine box_event ?hg (N := 2) ?hd (cs := #[.int .i64 a0_0, .slice A0_1 l0_1.length c0_1, .slice A0_2 l0_2.length c0_2, .slice A0_3 l0_3.length c0_3]) (t := 46) ?hr ?_; (case hd => rfl); (case hg => rfl); (case hr => first | (go_simp; done) | (go_simp; rfl)); intro gb236 hg w3 hbox hb; have n0_ := Aside0.mk (below_step (by repeat (first | (with_reducible first | exact HB.out | apply pA | apply pN | apply pD) | exact HB.out)) hb); have n1_ := Aside0.mk (hbox); have n2_ := Aside0.mk ((by rw [hg]; exact (below_size (by repeat (first | (with_reducible first | exact HB.out | apply pA | apply pN | apply pD) | exact HB.out))) : w.heap.size ≤ gb236)); have n3_ := Aside0.mk ((by rw [hg]; exact (below_size (by repeat (first | (with_reducible first | exact HB.out | apply pA | apply pN | apply pD) | exact HB.out))) : w.heap.size ≤ gb236)); clear HB; have HB := n0_; have BK236 := n1_; have GW236 := n2_; have GE236 := n3_; clear n0_ n1_ n2_ n3_; clear hb hbox hg))
  go_loopg [5] k (fun kq v5 w' => ∃ (x5_1 : Int), v5 = .int .i64 x5_1 ∧ Aside0 (portreeveref04_Of.l0 kq a1 x5_1 a0_0 l0_1 l0_2 l0_3 = some r) ∧ Aside0 (kq ≤ k) ∧ Aside0 (w'.heap[gb236]? = some (.cells #[.int .i64 a0_0, (.slice A0_1 l0_1.length c0_1), (.slice A0_2 l0_2.length c0_2), (.slice A0_3 l0_3.length c0_3)] 46 (0, 0))) ∧ Aside0 (Below w.heap.size w w'))
  case atStart => exact ⟨(0), (by first | rfl | (simp; done) | (simp [*]; done)), H', ⟨Nat.le_refl _⟩, ⟨by (with_reducible repeat (first | refine qN ?_ _ | refine qD ?_ | refine qA ?_ _)); exact BK236.out⟩, ⟨by repeat (first | (with_reducible first | exact HB.out | apply pA | apply pN | apply pD | refine pS ?_ GE236.out) | exact HB.out)⟩⟩
  case round =>
    clear H'
    try clear c2
    try clear p2
    obtain ⟨x5_1, rfl, HA, HK1, BK236, HB⟩ := hrel
    cases gk with
    | zero => exact absurd HA.out (by simp [portreeveref04_Of.l0])
    | succ k1 =>
      have H := HA.out
      clear HA
      simp only [portreeveref04_Of.l0] at H
      by_cases c4 : x5_1 < (l0_1.length : Int)
      · rw [if_pos c4] at H
        have c4b0 : decide (x5_1 < (l0_1.length : Int)) = true := decide_eq_true c4
        clear c4
        by_cases c5 : 0 ≤ x5_1
        · rw [if_pos c5] at H
          have c5b0 : decide (0 ≤ x5_1) = true := decide_eq_true c5
          clear c5
          by_cases c6 : ((rd_T51 l0_1 x5_1).f0) = a1
          · rw [if_pos c6] at H
            have c6b0 : (((rd_T51 l0_1 x5_1).f0) == a1) = true := beq_iff_eq.mpr c6
            have c6b1 : (((rd_T51 l0_1 x5_1).f0) != a1) = false := bne_eq_false_iff_eq.mpr c6
            clear c6
            obtain rfl := Option.some.inj H
            have hcz7_0 : wr.cell? ⟨gb236, 0, none⟩ = some (.int .i64 a0_0) := (blk_cell BK236.out 0).trans rfl
            have hcz7_1 : wr.cell? ⟨gb236, 1, none⟩ = some (.slice A0_1 l0_1.length c0_1) := (blk_cell BK236.out 1).trans rfl
            have hcz7_2 : wr.cell? ⟨gb236, 2, none⟩ = some (.slice A0_2 l0_2.length c0_2) := (blk_cell BK236.out 2).trans rfl
            have hcz7_3 : wr.cell? ⟨gb236, 3, none⟩ = some (.slice A0_3 l0_3.length c0_3) := (blk_cell BK236.out 3).trans rfl
            have hfz7_0 := blk_frozen BK236.out 0
            have hfz7_1 := blk_frozen BK236.out 1
            have hfz7_2 := blk_frozen BK236.out 2
            have hfz7_3 := blk_frozen BK236.out 3
            have p237 : 0 ≤ (x5_1 : Int) := of_decide_eq_true (by first | (with_reducible assumption) | assumption)
            have q237 : x5_1 < (l0_1.length : Int) := of_decide_eq_true (by first | (with_reducible assumption) | assumption)
            obtain ⟨ad237, e237, hx237_0, hx237_1, hx237_2, hx237_3, hx237_4, hx237_5⟩ := at_T51 HR0_1.out x5_1 p237 q237
            cases e237
            replace hx237_0 := (HB.out.cell (World.block_lt_of_cell? w _ hx237_0)).trans hx237_0
            replace hx237_1 := (HB.out.cell (World.block_lt_of_cell? w _ hx237_1)).trans hx237_1
            replace hx237_2 := (HB.out.cell (World.block_lt_of_cell? w _ hx237_2)).trans hx237_2
            replace hx237_3 := (HB.out.cell (World.block_lt_of_cell? w _ hx237_3)).trans hx237_3
            replace hx237_4 := (HB.out.cell (World.block_lt_of_cell? w _ hx237_4)).trans hx237_4
            replace hx237_5 := (HB.out.cell (World.block_lt_of_cell? w _ hx237_5)).trans hx237_5
            replace p237 := eq_true p237
            replace q237 := eq_true q237
            go_wp2
            go_ret
            exact ⟨by first | rfl | (simp [errW_none, errW_some] <;> rfl) | (simp [*, errW_none, errW_some] <;> rfl), by repeat (first | (with_reducible first | exact HB.out | apply pA | apply pN | apply pD | refine pS ?_ GE236.out) | exact HB.out)⟩
          · rw [if_neg c6] at H
            have c6b0 : (((rd_T51 l0_1 x5_1).f0) == a1) = false := beq_eq_false_iff_ne.mpr c6
            have c6b1 : (((rd_T51 l0_1 x5_1).f0) != a1) = true := bne_iff_ne.mpr c6
            have H' := Aside0.mk H
            clear H
            have hcz8_0 : wr.cell? ⟨gb236, 0, none⟩ = some (.int .i64 a0_0) := (blk_cell BK236.out 0).trans rfl
            have hcz8_1 : wr.cell? ⟨gb236, 1, none⟩ = some (.slice A0_1 l0_1.length c0_1) := (blk_cell BK236.out 1).trans rfl
            have hcz8_2 : wr.cell? ⟨gb236, 2, none⟩ = some (.slice A0_2 l0_2.length c0_2) := (blk_cell BK236.out 2).trans rfl
            have hcz8_3 : wr.cell? ⟨gb236, 3, none⟩ = some (.slice A0_3 l0_3.length c0_3) := (blk_cell BK236.out 3).trans rfl
            have hfz8_0 := blk_frozen BK236.out 0
            have hfz8_1 := blk_frozen BK236.out 1
            have hfz8_2 := blk_frozen BK236.out 2
            have hfz8_3 := blk_frozen BK236.out 3
            have p237 : 0 ≤ (x5_1 : Int) := of_decide_eq_true (by first | (with_reducible assumption) | assumption)
            have q237 : x5_1 < (l0_1.length : Int) := of_decide_eq_true (by first | (with_reducible assumption) | assumption)
            obtain ⟨ad237, e237, hx237_0, hx237_1, hx237_2, hx237_3, hx237_4, hx237_5⟩ := at_T51 HR0_1.out x5_1 p237 q237
            cases e237
            replace hx237_0 := (HB.out.cell (World.block_lt_of_cell? w _ hx237_0)).trans hx237_0
            replace hx237_1 := (HB.out.cell (World.block_lt_of_cell? w _ hx237_1)).trans hx237_1
            replace hx237_2 := (HB.out.cell (World.block_lt_of_cell? w _ hx237_2)).trans hx237_2
            replace hx237_3 := (HB.out.cell (World.block_lt_of_cell? w _ hx237_3)).trans hx237_3
            replace hx237_4 := (HB.out.cell (World.block_lt_of_cell? w _ hx237_4)).trans hx237_4
            replace hx237_5 := (HB.out.cell (World.block_lt_of_cell? w _ hx237_5)).trans hx237_5
            replace p237 := eq_true p237
            replace q237 := eq_true q237
            go_wp2
            go_roundg k1
            case measure => have := HK1.out; omega
            case rel => exact ⟨(wrap64 (x5_1 + 1)), (by first | rfl | (simp; done) | (simp [*]; done)), H', ⟨by have := HK1.out; omega⟩, ⟨by (with_reducible repeat (first | refine qN ?_ _ | refine qD ?_ | refine qA ?_ _)); exact BK236.out⟩, ⟨by repeat (first | (with_reducible first | exact HB.out | apply pA | apply pN | apply pD | refine pS ?_ GE236.out) | exact HB.out)⟩⟩
        · rw [if_neg c5] at H
          exact absurd H (by simp)
      · rw [if_neg c4] at H
        have c4b0 : decide (x5_1 < (l0_1.length : Int)) = false := decide_eq_false c4
        clear c4
        obtain rfl := Option.some.inj H
        have hcz9_0 : wr.cell? ⟨gb236, 0, none⟩ = some (.int .i64 a0_0) := (blk_cell BK236.out 0).trans rfl
        have hcz9_1 : wr.cell? ⟨gb236, 1, none⟩ = some (.slice A0_1 l0_1.length c0_1) := (blk_cell BK236.out 1).trans rfl
        have hcz9_2 : wr.cell? ⟨gb236, 2, none⟩ = some (.slice A0_2 l0_2.length c0_2) := (blk_cell BK236.out 2).trans rfl
        have hcz9_3 : wr.cell? ⟨gb236, 3, none⟩ = some (.slice A0_3 l0_3.length c0_3) := (blk_cell BK236.out 3).trans rfl
        have hfz9_0 := blk_frozen BK236.out 0
        have hfz9_1 := blk_frozen BK236.out 1
        have hfz9_2 := blk_frozen BK236.out 2
        have hfz9_3 := blk_frozen BK236.out 3
        go_wp2
        go_ret
        exact ⟨by first | rfl | (simp [errW_none, errW_some] <;> rfl) | (simp [*, errW_none, errW_some] <;> rfl), by repeat (first | (with_reducible first | exact HB.out | apply pA | apply pN | apply pD | refine pS ?_ GE236.out) | exact HB.out)⟩

/-! ### portreeveref04_name: function 31 -/
def portreeveref04_name.f (a0 : ByteArray) : Option (Bool) := if (a0.size : Int) ≥ 1 then (some (decide ((a0.size : Int) ≤ 16))) else (some false)
set_option maxHeartbeats 8000000 in
set_option maxRecDepth 100000 in
theorem portreeveref04_name.calls (a0 : ByteArray) (r : Bool) (w : World) (h : portreeveref04_name.f a0 = some r) :
    Calls Try.prog 31 #[.string a0] w fun e w' => e = .returned (.bool r) ∧ Drawn0 w w' := by
  have H : (if (a0.size : Int) ≥ 1 then (some (decide ((a0.size : Int) ≤ 16))) else (some false)) = some r := h
  clear h
  by_cases c2 : (a0.size : Int) ≥ 1
  · rw [if_pos c2] at H
    have c2b0 : decide (1 ≤ (a0.size : Int)) = true := decide_eq_true c2
    have c2b1 : decide (1 ≤ a0.size) = true := decide_eq_true (by omega)
    clear c2
    obtain rfl := Option.some.inj H
    go_enter Try.func31, Try.ntmps31
    go_wp2
    go_ret
    exact ⟨by first | rfl | (simp; done) | (simp [*]; done), by repeat (first | exact Drawn0.refl _ | apply Drawn0.step)⟩
  · rw [if_neg c2] at H
    have c2b0 : decide (1 ≤ (a0.size : Int)) = false := decide_eq_false c2
    have c2b1 : decide (1 ≤ a0.size) = false := decide_eq_false (by omega)
    clear c2
    obtain rfl := Option.some.inj H
    go_enter Try.func31, Try.ntmps31
    go_wp2
    go_ret
    exact ⟨by first | rfl | (simp; done) | (simp [*]; done), by repeat (first | exact Drawn0.refl _ | apply Drawn0.step)⟩

/-! ### portreeveref04_pool: function 36 -/
def portreeveref04_pool.f (a0 : Int) : Option (Bool) := if a0 ≥ 167772161 then (some (decide (a0 ≤ 167772166))) else (some false)
set_option maxHeartbeats 8000000 in
set_option maxRecDepth 100000 in
theorem portreeveref04_pool.calls (a0 : Int) (r : Bool) (w : World) (h : portreeveref04_pool.f a0 = some r) :
    Calls Try.prog 36 #[.int .u32 a0] w fun e w' => e = .returned (.bool r) ∧ Drawn0 w w' := by
  have H : (if a0 ≥ 167772161 then (some (decide (a0 ≤ 167772166))) else (some false)) = some r := h
  clear h
  by_cases c2 : a0 ≥ 167772161
  · rw [if_pos c2] at H
    have c2b0 : decide (167772161 ≤ a0) = true := decide_eq_true c2
    clear c2
    obtain rfl := Option.some.inj H
    go_enter Try.func36, Try.ntmps36
    go_wp2
    go_ret
    exact ⟨by first | rfl | (simp; done) | (simp [*]; done), by repeat (first | exact Drawn0.refl _ | apply Drawn0.step)⟩
  · rw [if_neg c2] at H
    have c2b0 : decide (167772161 ≤ a0) = false := decide_eq_false c2
    clear c2
    obtain rfl := Option.some.inj H
    go_enter Try.func36, Try.ntmps36
    go_wp2
    go_ret
    exact ⟨by first | rfl | (simp; done) | (simp [*]; done), by repeat (first | exact Drawn0.refl _ | apply Drawn0.step)⟩

end Go.Proofs.Ytlimlbhhbjaljaa.Q
